/- Own text: AmDraw, AmSteps, AmForget, AmList. -/
import Derived.Test.YtalfdjihejohoaaAmRun
/- Regions that draw their order: the text's order serves, if operations that may change places do not meet. -/
set_option linter.unusedSimpArgs false
set_option linter.unusedSectionVars false
namespace Go.Am
open Go

/-- What one operation did: the slots that it set, the objects, what it looked at. -/
structure Rec where
  sets : Sets
  heap : Option (List Obj)
  rd : List Nat
  hr : Bool
structure Foot where
  wr : List Nat
  rd : List Nat
  hw : Bool
  hr : Bool
def Rec.foot (x : Rec) : Foot := { wr := x.sets.map (·.1), rd := x.rd, hw := x.heap.isSome, hr := x.hr }

def meets (l m : List Nat) : Bool := l.any fun t => m.contains t
def Foot.clash (x y : Foot) : Bool := meets x.wr (y.rd ++ y.wr) || meets x.rd y.wr || (x.hw && (y.hr || y.hw)) || (x.hr && y.hw)

/-- The states are the same to whoever looks. -/
structure Alike (σ τ : St) : Prop where
  get : ∀ t, σ.get t = τ.get t
  heap : σ.heap = τ.heap
  n : σ.n = τ.n
theorem Alike.refl (σ : St) : Alike σ σ := ⟨fun _ => rfl, rfl, rfl⟩
theorem Alike.symm {σ τ : St} (h : Alike σ τ) : Alike τ σ := ⟨fun t => (h.get t).symm, h.heap.symm, h.n.symm⟩
theorem Alike.trans {σ τ υ : St} (h : Alike σ τ) (h' : Alike τ υ) : Alike σ υ := ⟨fun t => (h.get t).trans (h'.get t), h.heap.trans h'.heap, h.n.trans h'.n⟩
theorem Rel.alike {G : Gh} {σ τ : St} {a : Act} {w : World} (R : Rel G σ a w) (h : Alike σ τ) : Rel G τ a w :=
  ⟨h.heap ▸ R.h, by rw [R.size, h.n], fun t => by rw [← h.get t]; exact R.slots t, fun t r off ht => by rw [← h.get t] at ht; obtain ⟨cs, hcs⟩ := R.places t r off ht; exact ⟨cs, by rw [← h.get r]; exact hcs⟩, R.df⟩

/-- The last value that a list of settings gives a slot. -/
def lastSet : Sets → Nat → Option AV
  | [], _ => none
  | (s, v) :: r, t => match lastSet r t with
    | some x => some x
    | none => if s = t then some v else none
theorem eget_esets : ∀ (ss : Sets) (e : List (Nat × AV)) (t : Nat), eget (esets e ss) t = (lastSet ss t).getD (eget e t)
  | [], e, t => rfl
  | (s, v) :: r, e, t => by
    have ih := eget_esets r (eset e s v) t
    simp only [esets, List.foldl_cons] at ih ⊢
    rw [ih, eget_eset]
    simp only [lastSet]
    cases lastSet r t with
    | some x => rfl
    | none => split <;> rfl
theorem lastSet_none {ss : Sets} {t : Nat} (h : t ∉ ss.map (·.1)) : lastSet ss t = none := by
  induction ss with
  | nil => rfl
  | cons p r ih =>
    obtain ⟨s, v⟩ := p
    simp at h
    simp only [lastSet]
    rw [ih (by simp; exact h.2), if_neg (fun e => h.1 e.symm)]
theorem upd_get (σ : St) (ss : Sets) (h : Option (List Obj)) (t : Nat) : (σ.upd ss h).get t = (lastSet ss t).getD (σ.get t) := eget_esets ss σ.env t
theorem upd_alike {σ τ : St} (h : Alike σ τ) (ss : Sets) (o : Option (List Obj)) : Alike (σ.upd ss o) (τ.upd ss o) :=
  ⟨fun t => by rw [upd_get, upd_get, h.get], by simp [St.upd, h.heap], h.n⟩

def Rec.app (σ : St) (x : Rec) : St := σ.upd x.sets x.heap
/-- Records that do not meet change places. -/
theorem app_comm {x y : Rec} (h : x.foot.clash y.foot = false) (σ : St) : Alike (y.app (x.app σ)) (x.app (y.app σ)) := by
  simp only [Foot.clash, Rec.foot, Bool.or_eq_false_iff] at h
  obtain ⟨⟨⟨h1, h2⟩, h3⟩, h4⟩ := h
  have hdis : ∀ t, t ∈ x.sets.map (·.1) → t ∉ y.sets.map (·.1) := by
    intro t ht hy
    have := List.any_eq_false.1 h1 t ht
    simp at this
    simp at hy
    exact absurd hy (by simpa using this.2)
  refine ⟨fun t => ?_, ?_, rfl⟩
  · simp only [Rec.app, upd_get]
    by_cases hx : t ∈ x.sets.map (·.1)
    · rw [lastSet_none (hdis t hx)]; rfl
    · rw [lastSet_none hx]
      rfl
  · simp only [Rec.app, St.upd]
    cases hx : x.heap <;> cases hy : y.heap <;> simp_all

/-- The state where only the records that are listed have been carried out, in the text's order. -/
def stateOf (S : Nat → Bool) : Nat → List Rec → St → St
  | _, [], σ => σ
  | i, x :: r, σ => stateOf S (i + 1) r (if S i then x.app σ else σ)

theorem stateOf_alike (S : Nat → Bool) : ∀ (i : Nat) (l : List Rec) {σ τ : St}, Alike σ τ → Alike (stateOf S i l σ) (stateOf S i l τ)
  | _, [], _, _, h => h
  | i, x :: r, σ, τ, h => by
    simp only [stateOf]
    refine stateOf_alike S (i + 1) r ?_
    split
    · exact upd_alike h _ _
    · exact h
theorem stateOf_congr {S S' : Nat → Bool} : ∀ (i : Nat) (l : List Rec) (σ : St), (∀ j, i ≤ j → j < i + l.length → S j = S' j) → stateOf S i l σ = stateOf S' i l σ
  | _, [], _, _ => rfl
  | i, x :: r, σ, h => by
    simp only [stateOf]
    rw [h i (Nat.le_refl _) (by simp)]
    exact stateOf_congr (i + 1) r _ (fun j h1 h2 => h j (by omega) (by simp; omega))
/-- A record that meets none that is listed goes to the end. -/
theorem stateOf_late (S : Nat → Bool) (x : Rec) : ∀ (i : Nat) (l : List Rec) (σ : St), (∀ (j : Nat) (hj : j < l.length), S (i + j) = true → x.foot.clash l[j].foot = false) → Alike (stateOf S i l (x.app σ)) (x.app (stateOf S i l σ))
  | _, [], σ, _ => Alike.refl _
  | i, y :: r, σ, h => by
    simp only [stateOf]
    have ih := stateOf_late S x (i + 1) r (if S i then y.app σ else σ) (fun j hj hS => h (j + 1) (by simp; omega) (by rw [show i + (j + 1) = i + 1 + j by omega]; exact hS))
    refine Alike.trans (stateOf_alike S (i + 1) r ?_) ih
    split
    · rename_i hi; exact app_comm (h 0 (by simp) (by simpa using hi)) σ
    · exact Alike.refl _
theorem stateOf_add (S : Nat → Bool) (q : Nat) : ∀ (i : Nat) (l : List Rec) (σ : St) (hq : q < l.length), S (i + q) = false → (∀ (j : Nat) (hj : j < l.length), q < j → S (i + j) = true → (l[q]).foot.clash l[j].foot = false) →
    Alike (stateOf (fun k => k == i + q || S k) i l σ) ((l[q]).app (stateOf S i l σ))
  | i, [], σ, hq, _, _ => by simp at hq
  | i, x :: r, σ, hq, hS, h => by
    simp only [stateOf]
    cases q with
    | zero =>
      simp only [Nat.add_zero] at hS ⊢
      simp only [beq_self_eq_true, Bool.true_or, if_true, hS, Bool.false_eq_true, if_false, List.getElem_cons_zero]
      rw [stateOf_congr (S' := S) (i + 1) r _ (fun j h1 _ => by simp; intro e; omega)]
      exact stateOf_late S x (i + 1) r σ (fun j hj hSj => h (j + 1) (by simp; omega) (by omega) (by rw [show i + (j + 1) = i + 1 + j by omega]; exact hSj))
    | succ q =>
      have hne : (i == i + (q + 1)) = false := by simp
      simp only [hne, Bool.false_or]
      have ih := stateOf_add S q (i + 1) r (if S i then x.app σ else σ) (by simpa using hq) (by rw [show i + 1 + q = i + (q + 1) by omega]; exact hS)
        (fun j hj hqj hSj => h (j + 1) (by simp; omega) (by omega) (by rw [show i + (j + 1) = i + 1 + j by omega]; exact hSj))
      rw [show i + 1 + q = i + (q + 1) by omega] at ih
      simpa using ih

/-- y writes nothing that f looks at. -/
def Foot.spares (y f : Foot) : Prop := (∀ t ∈ f.rd, t ∉ y.wr) ∧ (f.hr = true → y.hw = false)
theorem Foot.spares_left {y f : Foot} (h : y.clash f = false) : y.spares f := by
  simp only [Foot.clash, Bool.or_eq_false_iff] at h
  obtain ⟨⟨⟨h1, _⟩, h3⟩, _⟩ := h
  refine ⟨fun t ht hy => ?_, fun hr => ?_⟩
  · have := List.any_eq_false.1 h1 t hy
    simp at this
    exact this.1 ht
  · cases hw : y.hw <;> simp_all
theorem Foot.spares_right {y f : Foot} (h : f.clash y = false) : y.spares f := by
  simp only [Foot.clash, Bool.or_eq_false_iff] at h
  obtain ⟨⟨⟨_, h2⟩, _⟩, h4⟩ := h
  refine ⟨fun t ht hy => ?_, fun hr => ?_⟩
  · have := List.any_eq_false.1 h2 t ht
    simp at this
    exact this hy
  · cases hw : y.hw <;> simp_all

/-- What an operation looks at is there as in the text's order. -/
theorem stateOf_same (S S' : Nat → Bool) (f : Foot) : ∀ (i : Nat) (l : List Rec) (σ τ : St), (∀ (j : Nat) (hj : j < l.length), S (i + j) ≠ S' (i + j) → (l[j]).foot.spares f) →
    (∀ t ∈ f.rd, σ.get t = τ.get t) → (f.hr = true → σ.heap = τ.heap) → σ.n = τ.n →
    (∀ t ∈ f.rd, (stateOf S i l σ).get t = (stateOf S' i l τ).get t) ∧ (f.hr = true → (stateOf S i l σ).heap = (stateOf S' i l τ).heap) ∧ (stateOf S i l σ).n = (stateOf S' i l τ).n
  | _, [], σ, τ, _, h1, h2, h3 => ⟨h1, h2, h3⟩
  | i, x :: r, σ, τ, h, h1, h2, h3 => by
    simp only [stateOf]
    have hx := h 0 (by simp)
    simp only [Nat.add_zero, List.getElem_cons_zero] at hx
    have hrest := fun σ τ => stateOf_same S S' f (i + 1) r σ τ (fun j hj hne => h (j + 1) (by simp; omega) (by rw [show i + (j + 1) = i + 1 + j by omega]; exact hne))
    have skipL : x.foot.spares f → (∀ (σ : St), ∀ t ∈ f.rd, (x.app σ).get t = σ.get t) ∧ (∀ (σ : St), f.hr = true → (x.app σ).heap = σ.heap) := by
      rintro ⟨e1, e2⟩
      refine ⟨fun σ t ht => ?_, fun σ hr => ?_⟩
      · simp only [Rec.app, upd_get]; rw [lastSet_none (e1 t ht)]; rfl
      · have := e2 hr
        simp only [Rec.foot] at this
        simp only [Rec.app, St.upd]
        cases hh : x.heap <;> simp_all
    cases hS : S i <;> cases hS' : S' i
    · exact hrest σ τ h1 h2 h3
    · obtain ⟨e1, e2⟩ := skipL (hx (by rw [hS, hS']; decide))
      exact hrest _ _ (fun t ht => by simp only [if_true, Bool.false_eq_true, if_false]; rw [e1 τ t ht]; exact h1 t ht) (fun hr => by simp only [if_true, Bool.false_eq_true, if_false]; rw [e2 τ hr]; exact h2 hr) h3
    · obtain ⟨e1, e2⟩ := skipL (hx (by rw [hS, hS']; decide))
      exact hrest _ _ (fun t ht => by simp only [if_true, Bool.false_eq_true, if_false]; rw [e1 σ t ht]; exact h1 t ht) (fun hr => by simp only [if_true, Bool.false_eq_true, if_false]; rw [e2 σ hr]; exact h2 hr) h3
    · refine hrest _ _ (fun t ht => ?_) (fun hr => ?_) h3
      · simp only [if_true, Rec.app, upd_get]; rw [h1 t ht]
      · simp only [if_true, Rec.app, St.upd]; rw [h2 hr]

/-! ### What must come first -/
def maskOf (acc : List Nat) (o : Oper) : Nat := o.after.toList.foldl (fun s e => if Region.binds .any e then s ||| 2 ^ e.on ||| acc.getD e.on 0 else s) 0
def masks : List Oper → List Nat → List Nat
  | [], acc => acc
  | o :: os, acc => masks os (acc ++ [maskOf acc o])
def backOnly : Nat → List Oper → Bool
  | _, [] => true
  | i, o :: os => o.after.toList.all (fun e => !Region.binds .any e || decide (e.on < i)) && backOnly (i + 1) os
/-- Any two records that meet are ordered. -/
def pairOk (ms : List Nat) (fs : List Foot) : Bool :=
  (List.range fs.length).all fun j => (List.range j).all fun i => (ms.getD j 0).testBit i ||
    match fs[i]?, fs[j]? with
    | some x, some y => !(x.clash y) && !(y.clash x)
    | _, _ => true
def okOrder (ops : List Oper) (fs : List Foot) : Bool := backOnly 0 ops && pairOk (masks ops []) fs

def Closed (ops : Array Oper) (S : Nat → Bool) : Prop := ∀ (j : Nat) (o : Oper), ops[j]? = some o → S j = true → ∀ e ∈ o.after, Region.binds .any e = true → S e.on = true

theorem testBit_foldl {acc : List Nat} {i : Nat} : ∀ (l : List Edge) (s : Nat), (l.foldl (fun s e => if Region.binds .any e then s ||| 2 ^ e.on ||| acc.getD e.on 0 else s) s).testBit i = true →
    s.testBit i = true ∨ ∃ e ∈ l, Region.binds .any e = true ∧ (e.on = i ∨ (acc.getD e.on 0).testBit i = true)
  | [], s, h => .inl h
  | e :: r, s, h => by
    simp only [List.foldl_cons] at h
    rcases testBit_foldl r _ h with h | ⟨e', he', h1, h2⟩
    · split at h
      · rename_i hb
        simp only [Nat.testBit_or, Bool.or_eq_true, Nat.testBit_two_pow] at h
        rcases h with (h | h) | h
        · exact .inl h
        · exact .inr ⟨e, by simp, hb, .inl (by simpa using h)⟩
        · exact .inr ⟨e, by simp, hb, .inr h⟩
      · exact .inl h
    · exact .inr ⟨e', by simp [he'], h1, h2⟩

/-- Whoever stands in the mask of an operation that may be next has been carried out. -/
def MaskOk (ops : Array Oper) (acc : List Nat) : Prop := ∀ (j : Nat) (o : Oper), j < acc.length → ops[j]? = some o → ∀ i, (acc.getD j 0).testBit i = true → ∀ S, Closed ops S → (∀ e ∈ o.after, Region.binds .any e = true → S e.on = true) → S i = true

theorem masks_ok {ops : Array Oper} : ∀ (l : List Oper) (acc : List Nat), (∀ (k : Nat), ops[acc.length + k]? = l[k]?) → MaskOk ops acc → MaskOk ops (masks l acc)
  | [], acc, _, h => h
  | o :: os, acc, hl, h => by
    refine masks_ok os _ (fun k => ?_) ?_
    · have := hl (k + 1); simp at this ⊢; rw [← this]; congr 1; omega
    · intro j o' hj ho' i hi S hS hpre
      by_cases hja : j < acc.length
      · rw [List.getD_eq_getElem?_getD, List.getElem?_append_left hja, ← List.getD_eq_getElem?_getD] at hi
        exact h j o' hja ho' i hi S hS hpre
      · have hje : j = acc.length := by simp at hj; omega
        subst hje
        have ho0 := hl 0
        simp at ho0
        rw [ho0] at ho'; injection ho' with ho'; subst ho'
        rw [List.getD_eq_getElem?_getD, List.getElem?_append_right (Nat.le_refl _)] at hi
        simp [maskOf] at hi
        rw [← Array.foldl_toList] at hi
        rcases testBit_foldl _ _ hi with hi | ⟨e, he, hb, hi⟩
        · simp at hi
        · have hSe := hpre e (by simpa using he) hb
          rcases hi with rfl | hi
          · exact hSe
          · have hlt : e.on < acc.length := by
              rcases Nat.lt_or_ge e.on acc.length with h1 | h1
              · exact h1
              · rw [List.getD_eq_getElem?_getD, List.getElem?_eq_none h1] at hi; simp at hi
            cases hoe : ops[e.on]? with
            | none =>
              have h2 : acc.length < ops.size := (Array.getElem?_eq_some_iff.1 ho0).1
              rw [Array.getElem?_eq_getElem (by omega)] at hoe; cases hoe
            | some oe => exact h e.on oe hlt hoe i hi S hS (fun e' he' hb' => hS e.on oe hoe hSe e' he' hb')

/-! ### The rule -/
/-- An operation in a state, and in every one that is the same to it. -/
def LStep (P : Program) (m : Nat) (ops : Array Oper) (i : Nat) (σ : St) (x : Rec) : Prop :=
  ∀ (τ : St), (∀ t ∈ x.rd, τ.get t = σ.get t) → (x.hr = true → τ.heap = σ.heap) → τ.n = σ.n → m ≤ τ.heap.length →
    m ≤ (x.app τ).heap.length ∧
    ∀ (r : Option Nat) (n : Nat) (G : Gh) (a : Act) (w : World) (Q' : Exit → Act → World → Prop) (K : Act → World → Prop), Rel G τ a w →
      (∀ G' a' w', Rel G' (x.app τ) a' w' → Ext m G w G' w' → K a' w') → wpOpIn (Wd r) n P ops Q' i K a w

inductive DSteps (P : Program) (m : Nat) (ops : Array Oper) : Nat → List Oper → St → List Rec → St → Prop
  | nil (i : Nat) (σ : St) : DSteps P m ops i [] σ [] σ
  | cons (i : Nat) (o : Oper) (os : List Oper) (σ σ' : St) (x : Rec) (xs : List Rec) (h : LStep P m ops i σ x) (hs : DSteps P m ops (i + 1) os (x.app σ) xs σ') : DSteps P m ops i (o :: os) σ (x :: xs) σ'

theorem DSteps.get {P : Program} {m : Nat} {ops : Array Oper} {i : Nat} {l : List Oper} {σ σ' : St} {xs : List Rec} (h : DSteps P m ops i l σ xs σ') :
    xs.length = l.length ∧ σ' = stateOf (fun _ => true) i xs σ ∧ ∀ (q : Nat) (hq : q < xs.length), LStep P m ops (i + q) (stateOf (fun k => decide (k < i + q)) i xs σ) xs[q] := by
  induction h with
  | nil i σ => exact ⟨rfl, rfl, fun q hq => by simp at hq⟩
  | cons i o os σ σ' x xs h _ ih =>
    obtain ⟨h1, h2, h3⟩ := ih
    refine ⟨by simp [h1], by simpa [stateOf] using h2, fun q hq => ?_⟩
    cases q with
    | zero =>
      have hz : ∀ (l : List Rec) (k : Nat) (τ : St), i < k → stateOf (fun k => decide (k < i + 0)) k l τ = τ := by
        intro l
        induction l with
        | nil => intro k τ _; rfl
        | cons y r ih =>
          intro k τ hk
          simp only [stateOf]
          rw [if_neg (by simp; omega)]
          exact ih (k + 1) τ (by omega)
      simp only [stateOf]
      rw [if_neg (by simp), hz xs (i + 1) σ (by omega)]
      exact h
    | succ q =>
      have := h3 q (by simpa using hq)
      simp only [stateOf]
      rw [if_pos (by simp)]
      rw [show i + (q + 1) = i + 1 + q by omega]
      simpa using this

theorem countP_less {p p' : Nat → Bool} {i : Nat} (hp : p i = true) (hp' : p' i = false) (hne : ∀ k, k ≠ i → p' k = p k) : ∀ (l : List Nat), l.Nodup → i ∈ l → l.countP p' + 1 = l.countP p
  | [], _, h => by simp at h
  | k :: r, hn, h => by
    simp at hn
    simp only [List.countP_cons]
    by_cases hk : k = i
    · subst hk
      have : r.countP p' = r.countP p := List.countP_congr fun q hq => by rw [hne q (by rintro rfl; exact hn.1 hq)]
      simp [hp, hp', this]
    · have ih := countP_less hp hp' hne r hn.2 (by simp at h; rcases h with h | h; exact absurd h.symm hk; exact h)
      rw [hne k hk]; omega
theorem stateOf_false (i : Nat) : ∀ (l : List Rec) (σ : St), stateOf (fun _ => false) i l σ = σ := by
  intro l
  induction l generalizing i with
  | nil => intro σ; rfl
  | cons x r ih => intro σ; simp only [stateOf]; exact ih (i + 1) σ

theorem AWp.regionD {P : Program} {m : Nat} {ops : Array Oper} {id : Nat} {Q : Exit → St → Prop} {σ σ' : St} {xs : List Rec} (hmix : P.follows .mixedOrders = true) (hm0 : m ≤ σ.heap.length)
    (h : DSteps P m ops 0 ops.toList σ xs σ') (hok : okOrder ops.toList (xs.map Rec.foot) = true) (hq : Q .normal σ') : AWp P m (.region id ops true) Q σ := by
  obtain ⟨hlen, hfin, hst⟩ := h.get
  have hlen' : xs.length = ops.size := by simpa using hlen
  simp only [okOrder, Bool.and_eq_true] at hok
  obtain ⟨hback, hpair⟩ := hok
  have hmask : MaskOk ops (masks ops.toList []) := masks_ok ops.toList [] (fun k => by simp) (fun j o hj => by simp at hj)
  have hbk : ∀ (j : Nat) (o : Oper), ops[j]? = some o → ∀ e ∈ o.after, Region.binds .any e = true → e.on < j := by
    have gen : ∀ (l : List Oper) (i : Nat), backOnly i l = true → ∀ (k : Nat) (o : Oper), l[k]? = some o → ∀ e ∈ o.after, Region.binds .any e = true → e.on < i + k := by
      intro l
      induction l with
      | nil => intro i _ k o ho; simp at ho
      | cons o' os ih =>
        intro i hb k o ho e he hbi
        simp only [backOnly, Bool.and_eq_true, List.all_eq_true] at hb
        cases k with
        | zero =>
          simp at ho; subst ho
          have := hb.1 e (by simpa using he)
          simp [hbi] at this; omega
        | succ k =>
          have := ih (i + 1) hb.2 k o (by simpa using ho) e he hbi
          omega
    intro j o ho e he hbi
    have := gen ops.toList 0 hback j o (by simpa using ho) e he hbi
    omega
  have hpr : ∀ (i j : Nat) (hi : i < xs.length) (hj : j < xs.length), i < j → ((masks ops.toList []).getD j 0).testBit i = true ∨ ((xs[i]).foot.clash xs[j].foot = false ∧ (xs[j]).foot.clash xs[i].foot = false) := by
    intro i j hi hj hij
    simp only [pairOk, List.all_eq_true, List.mem_range, List.length_map] at hpair
    have := hpair j hj i hij
    simp only [Bool.or_eq_true] at this
    rcases this with h | h
    · exact .inl h
    · right
      simpa [List.getElem?_map, List.getElem?_eq_getElem hi, List.getElem?_eq_getElem hj] using h
  intro r n G a w hm R
  refine wpIn_region_any hmix ?_
  -- what is listed
  have key : ∀ (fuel : Nat) (listed : Array Bool) (G1 : Gh) (a : Act) (w1 : World), listed.size = ops.size → Closed ops (fun k => listed.getD k false) → (List.range ops.size).countP (fun k => !listed.getD k false) ≤ fuel →
      Rel G1 (stateOf (fun k => listed.getD k false) 0 xs σ) a w1 → Ext m G w G1 w1 → m ≤ (stateOf (fun k => listed.getD k false) 0 xs σ).heap.length → wpAnyIn (Wd r) n P .any ops (Post m G w Q) fuel listed a w1 := by
    have hgd : ∀ (listed : Array Bool), listed.size = ops.size → ∀ k, k < ops.size → listed.getD k true = listed.getD k false := by
      intro listed hsz k hk
      have : k < listed.size := by omega
      simp [Array.getD, this]
    have hall : ∀ (listed : Array Bool), listed.size = ops.size → Region.ready .any ops listed = [] → ∀ k, k < ops.size → listed.getD k false = true := by
      intro listed hsz hre k
      induction k using Nat.strongRecOn with
      | _ k ih =>
        intro hk
        cases hl : listed.getD k false with
        | true => rfl
        | false =>
          have : k ∈ Region.ready .any ops listed := by
            refine mem_ready.2 ⟨by rw [hgd listed hsz k hk]; exact hl, ops[k], Array.getElem?_eq_getElem hk, fun e he hb => ?_⟩
            have hlt := hbk k _ (Array.getElem?_eq_getElem hk) e he hb
            exact ih e.on hlt (by omega)
          rw [hre] at this; cases this
    have hdone : ∀ (listed : Array Bool) (G1 : Gh) (a : Act) (w1 : World), listed.size = ops.size → (∀ k, k < ops.size → listed.getD k false = true) → Rel G1 (stateOf (fun k => listed.getD k false) 0 xs σ) a w1 → Ext m G w G1 w1 →
        m ≤ (stateOf (fun k => listed.getD k false) 0 xs σ).heap.length → Post m G w Q .normal a w1 := by
      intro listed G1 a w1 hsz hl R1 hE hmh
      have e : stateOf (fun k => listed.getD k false) 0 xs σ = σ' := by
        rw [hfin]; exact stateOf_congr 0 xs σ (fun j _ hj => hl j (by omega))
      rw [e] at R1 hmh
      exact ⟨σ', G1, R1, hE, by rw [← R1.h.nh]; exact hmh, hq⟩
    intro fuel
    induction fuel with
    | zero =>
      intro listed G1 a w1 hsz hcl hcnt R1 hE hmh
      have hl : ∀ k, k < ops.size → listed.getD k false = true := by
        intro k hk
        have h0 : (List.range ops.size).countP (fun k => !listed.getD k false) = 0 := by omega
        have := List.countP_eq_zero.1 h0 k (List.mem_range.2 hk)
        simpa using this
      refine ⟨?_, hdone listed G1 a w1 hsz hl R1 hE hmh⟩
      cases hre : Region.ready .any ops listed with
      | nil => rfl
      | cons k rest =>
        have hk : k ∈ Region.ready .any ops listed := by rw [hre]; simp
        obtain ⟨h1, o, h2, _⟩ := mem_ready.1 hk
        have hlt : k < ops.size := (Array.getElem?_eq_some_iff.1 h2).1
        rw [hgd listed hsz k hlt, hl k hlt] at h1; cases h1
    | succ fuel ih =>
      intro listed G1 a w1 hsz hcl hcnt R1 hE hmh
      refine ⟨fun hready => hdone listed G1 a w1 hsz (hall listed hsz hready) R1 hE hmh, fun i hi => ?_⟩
      obtain ⟨hun, o, ho, hpre⟩ := mem_ready.1 hi
      have hlt : i < ops.size := (Array.getElem?_eq_some_iff.1 ho).1
      rw [hgd listed hsz i hlt] at hun
      have hix : i < xs.length := by omega
      have hpre' : ∀ e ∈ o.after, Region.binds .any e = true → listed.getD e.on false = true := hpre
      -- it looks at what the text's order shows
      have hsame := stateOf_same (fun k => listed.getD k false) (fun k => decide (k < 0 + i)) (xs[i]).foot 0 xs σ σ (fun j hj hne => by
        simp only [Nat.zero_add] at hne ⊢
        rcases Nat.lt_trichotomy j i with h | h | h
        · have hlj : listed.getD j false = false := by
            cases hh : listed.getD j false with
            | false => rfl
            | true => simp [hh, h] at hne
          rcases hpr j i hj hix h with hb | hb
          · have := hmask i o (by
              have : (masks ops.toList []).length = ops.size := by
                have gl : ∀ (l : List Oper) (acc : List Nat), (masks l acc).length = acc.length + l.length := by
                  intro l
                  induction l with
                  | nil => intro acc; simp [masks]
                  | cons o os ih => intro acc; simp [masks, ih]; omega
                simpa using gl ops.toList []
              omega) ho j hb _ hcl hpre'
            rw [hlj] at this; cases this
          · exact Foot.spares_left hb.1
        · subst h; simp [hun] at hne
        · have hlj : listed.getD j false = true := by
            cases hh : listed.getD j false with
            | true => rfl
            | false => simp [hh] at hne; omega
          rcases hpr i j hix hj h with hb | hb
          · have hoj : ops[j]? = some (ops[j]'(by omega)) := Array.getElem?_eq_getElem (by omega)
            have := hmask j _ (by
              have : (masks ops.toList []).length = ops.size := by
                have gl : ∀ (l : List Oper) (acc : List Nat), (masks l acc).length = acc.length + l.length := by
                  intro l
                  induction l with
                  | nil => intro acc; simp [masks]
                  | cons o os ih => intro acc; simp [masks, ih]; omega
                simpa using gl ops.toList []
              omega) hoj i hb _ hcl (fun e he hbi => hcl j _ hoj hlj e he hbi)
            have this : listed.getD i false = true := this
            rw [hun] at this; cases this
          · exact Foot.spares_left hb.2) (fun _ _ => rfl) (fun _ => rfl) rfl
      have hL := hst i hix
      simp only [Nat.zero_add] at hL hsame
      obtain ⟨hmh', hL⟩ := hL (stateOf (fun k => listed.getD k false) 0 xs σ) hsame.1 hsame.2.1 hsame.2.2 hmh
      refine hL r n G1 a w1 _ _ R1 fun G' a' w' R' hE' => ?_
      have hset : ∀ k, k < ops.size → (listed.setIfInBounds i true).getD k false = (k == 0 + i || listed.getD k false) := by
        intro k hk
        have hkl : k < listed.size := by omega
        by_cases hki : k = i
        · subst hki; simp [Array.getD, hkl]
        · have : ¬ i = k := fun e => hki e.symm
          simp [Array.getD_eq_getD_getElem?, Array.getElem?_setIfInBounds_ne this, hki]
      have hal : Alike (stateOf (fun k => (listed.setIfInBounds i true).getD k false) 0 xs σ) ((xs[i]).app (stateOf (fun k => listed.getD k false) 0 xs σ)) := by
        rw [stateOf_congr (S' := fun k => k == 0 + i || listed.getD k false) 0 xs σ (fun j _ hj => hset j (by omega))]
        refine stateOf_add (fun k => listed.getD k false) i 0 xs σ hix (by simpa using hun) (fun j hj hij hSj => ?_)
        simp only [Nat.zero_add] at hSj
        rcases hpr i j hix hj hij with hb | hb
        · have hoj : ops[j]? = some (ops[j]'(by omega)) := Array.getElem?_eq_getElem (by omega)
          have := hmask j _ (by
            have : (masks ops.toList []).length = ops.size := by
              have gl : ∀ (l : List Oper) (acc : List Nat), (masks l acc).length = acc.length + l.length := by
                intro l
                induction l with
                | nil => intro acc; simp [masks]
                | cons o os ih => intro acc; simp [masks, ih]; omega
              simpa using gl ops.toList []
            omega) hoj i hb _ hcl (fun e he hbi => hcl j _ hoj hSj e he hbi)
          have this : listed.getD i false = true := this
          rw [hun] at this; cases this
        · exact hb.1
      refine ih (listed.setIfInBounds i true) G' a' w' (by simpa using hsz) ?_ ?_ (R'.alike hal.symm) (hE.trans hE') (by rw [hal.heap]; exact hmh')
      · intro j oj hoj hSj e he hb
        have hj : j < ops.size := (Array.getElem?_eq_some_iff.1 hoj).1
        have heon : e.on < ops.size := Nat.lt_trans (hbk j oj hoj e he hb) hj
        simp only [hset j hj, Nat.zero_add] at hSj
        simp only [hset e.on heon, Nat.zero_add, Bool.or_eq_true]
        simp only [Bool.or_eq_true, beq_iff_eq] at hSj
        rcases hSj with rfl | hSj
        · rw [ho] at hoj; injection hoj with hoj; subst hoj
          exact .inr (hpre' e he hb)
        · exact .inr (hcl j oj hoj hSj e he hb)
      · have := countP_less (p := fun k => !listed.getD k false) (p' := fun k => !(listed.setIfInBounds i true).getD k false) (i := i) (by simp [hun]) (by
          have : i < listed.size := by omega
          simp [Array.getD, this]) (fun k hk => by
            have : ¬ i = k := fun e => hk e.symm
            simp [Array.getD_eq_getD_getElem?, Array.getElem?_setIfInBounds_ne this]) (List.range ops.size) List.nodup_range (List.mem_range.2 hlt)
        omega
  have hrep : ∀ k, (Array.replicate ops.size false).getD k false = false := by
    intro k
    simp only [Array.getD_eq_getD_getElem?, Array.getElem?_replicate]
    split <;> rfl
  have hst0 : stateOf (fun k => (Array.replicate ops.size false).getD k false) 0 xs σ = σ := by
    rw [stateOf_congr (S' := fun _ => false) 0 xs σ (fun j _ _ => hrep j), stateOf_false]
  refine key ops.size (Array.replicate ops.size false) G a _ (by simp) (fun j o _ hS => by simp only [hrep] at hS; cases hS) ?_ (by rw [hst0]; exact R.drew rfl) (Ext.drew (w1 := _) rfl rfl rfl) (by rw [hst0]; exact hm0)
  exact Nat.le_trans List.countP_le_length (by simp)

/-! ### Evaluation in a region that draws its order -/
section
variable {P : Program} {T : Types} {m : Nat} {ops : Array Oper} {an : Ann} {σ : St} {i : Nat} {o : Oper}

theorem wantA_same {τ : St} (h : ∀ t ∈ operSlots ops.toList o, τ.get t = σ.get t) : wantA ops.toList τ o = wantA ops.toList σ o := by
  unfold wantA
  cases hg : o.guard with
  | none => rfl
  | some p =>
    obtain ⟨j, b⟩ := p
    simp only
    cases hd : (ops.toList[j]?).bind (·.dst) with
    | none => rfl
    | some d =>
      have : τ.get d = σ.get d := h d (by
        unfold operSlots
        simp only [hg, List.mem_append]
        right; rw [hd]; simp)
      simp only [this]

theorem rdOf_same {g g' : Nat → AV} {l : List Oper} (h : ∀ t ∈ rdOf g l o, g' t = g t) : rdOf g' l o = rdOf g l o := by
  have h0 : ∀ t ∈ operSlots l o, g' t = g t := fun t ht => h t (by unfold rdOf; simp [ht])
  unfold rdOf
  congr 1
  have : ∀ (xs : List Nat), (∀ t ∈ xs, g' t = g t) → xs.flatMap (fun t => match g' t with | .place r _ => [r] | _ => []) = xs.flatMap (fun t => match g t with | .place r _ => [r] | _ => []) := by
    intro xs
    induction xs with
    | nil => intro _; rfl
    | cons x r ih => intro hx; simp only [List.flatMap_cons]; rw [hx x (by simp), ih (fun t ht => hx t (by simp [ht]))]
  exact this _ h0

theorem only_same {g g' : Nat → AV} {rd : List Nat} (h : ∀ t ∈ rd, g' t = g t) : only rd g' = only rd g := by
  funext t
  unfold only
  split
  · rename_i hc; exact h t (by simpa using hc)
  · rfl

theorem LStep.op (hT : TOk P T) (ho : ops[i]? = some o) {u : Upd} (hw : wantA ops.toList σ o = some true) (he : evOp Ar.std T an ops.toList σ o = some u) :
    LStep P m ops i σ { sets := u.sets, heap := u.heap, rd := u.rd, hr := u.hr } := by
  intro τ hrd hhr hn hm
  have hu := he
  unfold evOp at he
  simp only at he
  split at he
  · rename_i ss h hev
    split at he
    · rename_i hcond
      simp at he
      subst he
      have hrd' : ∀ t ∈ rdOf σ.get ops.toList o, τ.get t = σ.get t := hrd
      have e1 : only (rdOf σ.get ops.toList o) τ.get = only (rdOf σ.get ops.toList o) σ.get := only_same hrd'
      have hw' : wantA ops.toList τ o = some true := by
        rw [wantA_same (σ := σ) (τ := τ) (fun t ht => hrd' t (by unfold rdOf; simp [ht]))]; exact hw
      have hev' : evCore Ar.std T an τ.n (only (rdOf σ.get ops.toList o) τ.get) (if heapy an (only (rdOf σ.get ops.toList o) σ.get) o then τ.heap else []) o = some (ss, h) := by
        rw [e1, hn]
        cases hh : heapy an (only (rdOf σ.get ops.toList o) σ.get) o with
        | true => rw [if_pos rfl, hhr hh]; simpa [hh] using hev
        | false => simpa [hh] using hev
      have hless : Less (only (rdOf σ.get ops.toList o) τ.get) τ := by
        intro t
        unfold only
        split
        · exact .inl rfl
        · exact .inr rfl
      have hstep := evCore_ok hT hless (fun d hd => by
        unfold only
        rw [if_pos]
        simp [rdOf, operSlots, hd]) (fun i ob hob => by
          split at hob
          · exact hob
          · simp at hob) (fun hh => by
            rw [e1] at hh
            rw [if_pos hh]) hev'
      have hlen : τ.heap.length ≤ (τ.upd ss h).heap.length := by
        cases hh : h with
        | none => exact Nat.le_refl _
        | some H' =>
          subst hh
          have hy : heapy an (only (rdOf σ.get ops.toList o) σ.get) o = true := by simpa using hcond
          rw [hy] at hev'
          exact evCore_len hev'
      refine ⟨Nat.le_trans hm hlen, fun r n G a w Q' K R hK => ?_⟩
      unfold wpOpIn
      simp only [ho]
      rw [if_pos (wantA_ok hw' R)]
      exact hstep r n m G a w Q' K (by rw [← R.h.nh]; exact hm) R hK
    · simp at he
  · simp at he

theorem LStep.skip (ho : ops[i]? = some o) {d : Nat} (hw : wantA ops.toList σ o = some false) (hd : o.dst = some d) (hlt : d < σ.n) (hb : (σ.get d).isBox = false) :
    LStep P m ops i σ { sets := [(d, .tuple [])], heap := none, rd := operSlots ops.toList o, hr := false } := by
  intro τ hrd _ hn hm
  refine ⟨hm, fun r n G a w Q' K R hK => ?_⟩
  have hdm : d ∈ operSlots ops.toList o := by simp [operSlots, hd]
  unfold wpOpIn
  simp only [ho]
  rw [wantA_ok (b := false) (by rw [wantA_same (σ := σ) hrd]; exact hw) R, if_neg (by simp)]
  refine ⟨fun _ _ => trivial, ?_⟩
  rw [hd]
  exact hK G _ w (R.put (.tuple _ _ #[] rfl (fun i hi => by simp at hi) (fun c hc => by simp at hc)) (fun r off e => by cases e) (by rw [hrd d hdm]; exact hb) (by rw [hn]; exact hlt)) (Ext.refl _ _ _)

theorem callOf_same {τ : St} (h : ∀ t ∈ operSlots ops.toList o, τ.get t = σ.get t) : callOf T τ o = callOf T σ o := by
  unfold callOf
  cases hop : o.op <;> try rfl
  rename_i c
  obtain ⟨callee, args, ts⟩ := c
  cases callee with
  | value x =>
    simp only
    have hsl : ∀ t, (Operand.tmp t = x ∨ Operand.tmp t ∈ args) → τ.get t = σ.get t := by
      intro t ht
      refine h t ?_
      unfold operSlots
      simp only [hop, Op.operands, Call.operands, List.mem_append, List.mem_flatMap]
      left; left
      rcases ht with rfl | ht
      · exact ⟨.tmp t, by simp, by simp [slotOf]⟩
      · exact ⟨.tmp t, by simp [ht], by simp [slotOf]⟩
    have e1 : ∀ (ps : List (Operand × TypeId)), (∀ p ∈ ps, p.1 ∈ args) → (ps.mapM fun p => opv T τ.get p.2 p.1) = ps.mapM fun p => opv T σ.get p.2 p.1 := by
      intro ps
      induction ps with
      | nil => intro _; rfl
      | cons p r ih =>
        intro hp
        simp only [List.mapM_cons]
        rw [ih (fun q hq => hp q (by simp [hq]))]
        have : opv T τ.get p.2 p.1 = opv T σ.get p.2 p.1 := by
          cases hp1 : p.1 with
          | tmp t => simp only [opv]; rw [hsl t (.inr (by have := hp p (by simp); rw [hp1] at this; exact this))]
          | _ => rfl
        rw [this]
    have e2 : (args.toList.zip ts.toList).mapM (fun p => opv T τ.get p.2 p.1) = (args.toList.zip ts.toList).mapM fun p => opv T σ.get p.2 p.1 := e1 _ (fun p hp => by
      have := (List.of_mem_zip hp).1
      simpa using this)
    rw [e2]
    cases x with
    | tmp t => simp only [hsl t (.inl rfl)]
    | _ => rfl
  | _ => rfl

/-- A call that is handed no object. -/
theorem LStep.call (ho : ops[i]? = some o) {f : FuncId} {args : List AV} {r : AV} {d : Nat} (hw : wantA ops.toList σ o = some true) (hcall : callOf T σ o = some (f, args)) (hargs : inbL 0 args = true)
    (hd : o.dst = some d) (hlt : d < σ.n) (hb : (σ.get d).isBox = false) (hfr : args.all AV.free = true) (hc : ACall P f args [] r []) :
    LStep P m ops i σ { sets := [(d, r)], heap := none, rd := operSlots ops.toList o, hr := false } := by
  intro τ hrd _ hn hm
  refine ⟨hm, fun rr n G a w Q' K R hK => ?_⟩
  have hdm : d ∈ operSlots ops.toList o := by simp [operSlots, hd]
  have hbτ : (τ.get d).isBox = false := by rw [hrd d hdm]; exact hb
  unfold wpOpIn
  simp only [ho]
  rw [if_pos (wantA_ok (b := true) (by rw [wantA_same (σ := σ) hrd]; exact hw) R)]
  obtain ⟨hcb, hrl, hri, hin', hHH, hcc⟩ := hc
  obtain ⟨hnd, vs, hrun, hvs, hrep⟩ := callOf_ok (T := T) (by rw [callOf_same (σ := σ) hrd]; exact hcall) hcb R
  have RH : RelH G ([] ++ τ.heap) w := R.h
  have hRh := RH.handed (H := []) rfl
  have hfr' : ∀ c ∈ args, c.free = true := by simpa using hfr
  have hsub : Sub G (G.handed 0) w w (fun ℓ => ℓ = .no) 0 :=
    ⟨KLe.refl _, fun b ℓ f hl hO => absurd (hl ▸ rfl) (R.h.sane.no b ℓ f hO), fun _ _ => rfl, Nat.le_refl _⟩
  refine ⟨fun _ _ => trivial, ?_⟩
  rw [Oper.semAt_eq _ _ _ hnd, hrun]
  refine ⟨fun hh => by simp [Wd] at hh, ?_⟩
  refine CallsIn.mono (callsIn_wd (hcc (n - 1) (G.handed 0) w vs hvs (fun i hi => ?_) hRh (fun b ℓ f hO => ?_))) ?_
  · exact (hrep i hi).sub R.h.sane hsub rfl (inbL_get hargs i hi) (AV.free_isLocal (hfr' _ (List.getElem_mem hi)))
  · have := (handed_O hO).2
    cases ℓ <;> simp [objLoc] at this
  · rintro e w' ⟨v, G3, rfl, hv, R3, hE⟩
    obtain ⟨R', hext⟩ := R.back (H := []) (rest := τ.heap) rfl (.inr rfl) hHH R3 hE hin' hv hrl hri (by rw [hn]; exact hlt) hbτ
    show K (a.put o.dst v) w'
    rw [hd]
    refine hK _ _ w' ?_ (hext m (by rw [← R.h.nh]; exact hm))
    simpa [Rec.app, St.upd, esets] using R'
end

/-- How far a region that draws its order can be evaluated, in the order of the text. -/
inductive OutD where
  | done (σ : St) (xs : List Rec)
  | call (f : FuncId) (args : List AV) (o : Oper) (rest : List Oper) (σ : St) (xs : List Rec)
  | stuck
def runD (A : Ar) (T : Types) (an : Ann) (all : List Oper) : List Oper → St → List Rec → OutD
  | [], σ, xs => .done σ xs
  | o :: os, σ, xs =>
    match wantA all σ o with
    | some true =>
      match callOf T σ o with
      | some (f, args) => .call f args o os σ xs
      | none =>
        match evOp A T an all σ o with
        | some u => runD A T an all os (σ.upd u.sets u.heap) (xs ++ [{ sets := u.sets, heap := u.heap, rd := u.rd, hr := u.hr }])
        | none => .stuck
    | some false =>
      match o.dst with
      | some d => if decide (d < σ.n) && !(σ.get d).isBox then runD A T an all os (σ.upd [(d, .tuple [])] none) (xs ++ [{ sets := [(d, .tuple [])], heap := none, rd := operSlots all o, hr := false }]) else .stuck
      | none => .stuck
    | none => .stuck

/-- What is left of a region that draws its order: the records so far, the operations to come. -/
def DOps (P : Program) (m : Nat) (ops : Array Oper) (l : List Oper) (xs : List Rec) (K : St → Prop) (σ : St) : Prop :=
  ∃ (ys : List Rec) (σ' : St), DSteps P m ops xs.length l σ ys σ' ∧ okOrder ops.toList ((xs ++ ys).map Rec.foot) = true ∧ K σ'

section
variable {P : Program} {T : Types} {m : Nat} {ops : Array Oper} {an : Ann} {K : St → Prop} {l : List Oper} {xs : List Rec} {σ : St}

theorem DOps.nil (hok : okOrder ops.toList (xs.map Rec.foot) = true) (h : K σ) : DOps P m ops [] xs K σ := ⟨[], σ, .nil _ _, by simpa using hok, h⟩
theorem DOps.cons {o : Oper} {x : Rec} (hs : LStep P m ops xs.length σ x) (h : DOps P m ops l (xs ++ [x]) K (x.app σ)) : DOps P m ops (o :: l) xs K σ := by
  obtain ⟨ys, σ', h1, h2, h3⟩ := h
  refine ⟨x :: ys, σ', .cons _ _ _ _ _ _ _ hs (by simpa using h1), by simpa using h2, h3⟩

theorem at_drop {ops : Array Oper} {o : Oper} {l : List Oper} {k : Nat} (hl : o :: l = ops.toList.drop k) : ops[k]? = some o ∧ l = ops.toList.drop (k + 1) := by
  have h0 : (ops.toList.drop k)[0]? = some o := by rw [← hl]; rfl
  simp at h0
  refine ⟨h0, ?_⟩
  have := congrArg (List.drop 1) hl
  simpa [List.drop_drop, Nat.add_comm] using this

/-- What evaluation in a drawn region has come to, taken up by a proof. -/
def ResumeD (P : Program) (m : Nat) (ops : Array Oper) (T : Types) (K : St → Prop) : OutD → Prop
  | .done σ xs => okOrder ops.toList (xs.map Rec.foot) = true ∧ K σ
  | .call f args o rest σ xs => callOf T σ o = some (f, args) → wantA ops.toList σ o = some true → ops[xs.length]? = some o → DOps P m ops (o :: rest) xs K σ
  | .stuck => False

theorem DOps.run (hT : TOk P T) : ∀ (l : List Oper) (xs : List Rec) (σ : St), l = ops.toList.drop xs.length → ResumeD P m ops T K (runD Ar.std T an ops.toList l σ xs) → DOps P m ops l xs K σ
  | [], xs, σ, _, h => DOps.nil h.1 h.2
  | o :: os, xs, σ, hl, h => by
    obtain ⟨ho, hl'⟩ := at_drop hl
    unfold runD at h
    cases hw : wantA ops.toList σ o with
    | none => simp [hw, ResumeD] at h
    | some b =>
      cases b with
      | true =>
        simp only [hw] at h
        cases hc : callOf T σ o with
        | some p =>
          obtain ⟨f, args⟩ := p
          simp only [hc] at h
          exact h hc hw ho
        | none =>
          simp only [hc] at h
          cases he : evOp Ar.std T an ops.toList σ o with
          | none => simp [he, ResumeD] at h
          | some u =>
            simp only [he] at h
            exact DOps.cons (LStep.op hT ho hw he) (DOps.run hT os _ _ (by simpa using hl') h)
      | false =>
        simp only [hw] at h
        cases hd : o.dst with
        | none => simp [hd, ResumeD] at h
        | some d =>
          simp only [hd] at h
          split at h
          · rename_i hc
            simp at hc
            exact DOps.cons (LStep.skip ho hw hd hc.1 hc.2) (DOps.run hT os _ _ (by simpa using hl') h)
          · exact h.elim

theorem DOps.done (hT : TOk P T) {σ' : St} {xs' : List Rec} (hl : l = ops.toList.drop xs.length) (h : ∀ A : Ar, A = Ar.std → runD A T an ops.toList l σ xs = .done σ' xs') (hok : okOrder ops.toList (xs'.map Rec.foot) = true) (hq : K σ') : DOps P m ops l xs K σ :=
  DOps.run (an := an) hT l xs σ hl (by rw [h _ rfl]; exact ⟨hok, hq⟩)

/-- On to a call, and over it. -/
theorem DOps.stepCall (hT : TOk P T) {f : FuncId} {args : List AV} {o : Oper} {rest : List Oper} {σ1 : St} {xs1 : List Rec} {r : AV} {d : Nat} (hl : l = ops.toList.drop xs.length) (h : ∀ A : Ar, A = Ar.std → runD A T an ops.toList l σ xs = .call f args o rest σ1 xs1)
    (hargs : inbL 0 args = true) (hd : o.dst = some d) (hlt : d < σ1.n) (hb : (σ1.get d).isBox = false) (hfr : args.all AV.free = true) (hc : ACall P f args [] r [])
    (k : DOps P m ops rest (xs1 ++ [{ sets := [(d, r)], heap := none, rd := operSlots ops.toList o, hr := false }]) K (σ1.upd [(d, r)] none)) : DOps P m ops l xs K σ :=
  DOps.run (an := an) hT l xs σ hl (by
    rw [h _ rfl]
    exact fun hcall hw ho => DOps.cons (LStep.call ho hw hcall hargs hd hlt hb hfr hc) k)

theorem AWp.regionDraw {id : Nat} {Q : Exit → St → Prop} (hmix : P.follows .mixedOrders = true) (hm : m ≤ σ.heap.length) (h : DOps P m ops ops.toList [] (Q .normal) σ) : AWp P m (.region id ops true) Q σ := by
  obtain ⟨ys, σ', h1, h2, h3⟩ := h
  exact AWp.regionD hmix hm h1 h2 h3

theorem AOps.stepCall (hT : TOk P T) {Q : Exit → St → Prop} {f : FuncId} {args : List AV} {o : Oper} {rest : List Oper} {σ1 : St} {H Hr H' : List Obj} {r : AV} {d : Nat} (h : ∀ A : Ar, A = Ar.std → runP A T an ops.toList l σ = .call f args o rest σ1)
    (hm : m ≤ σ.heap.length) (hH : σ1.heap = H ++ Hr) (hr : Hr = [] ∨ H'.length = H.length) (hin : objsInb H.length H = true) (hargs : inbL H.length args = true) (hd : o.dst = some d) (hlt : d < σ1.n) (hb : (σ1.get d).isBox = false)
    (hfr : args.all AV.free = true) (hc : ACall P f args H r H') (k : AOps P m ops rest Q { σ1 with env := eset σ1.env d r, heap := H' ++ Hr }) : AOps P m ops l Q σ :=
  AOps.run (an := an) hT l σ hm (by
    rw [h _ rfl]
    intro hcall hw
    refine AOps.call hw hcall hH hr hin hargs hd hlt hb hfr hc ?_
    intro r n G a w Q' hm' R hQ
    exact k r n G a w Q' hm' R (fun e a' w' hp => by
      obtain ⟨σ', G', R', hE, hm'', hq⟩ := hp
      exact hQ e a' w' ⟨σ', G', R', hE, hm'', fun _ => hq⟩))
end
end Go.Am

/- Steps over code, as a proof over a function's text takes them. -/
set_option linter.unusedSimpArgs false
set_option linter.unusedSectionVars false
namespace Go.Am
open Go
section
variable {P : Program} {T : Types} {m : Nat} {Q : Exit → St → Prop} {σ σ' : St} {ops : Array Oper} {an : Ann} {id : Nat} {c : Code}

theorem AWp.reg (an : Ann) (hT : TOk P T) (h : ∀ A : Ar, A = Ar.std → runP A T an ops.toList ops.toList σ = .done σ') (hm : m ≤ σ.heap.length) (k : AWp P m c Q σ') : AWp P m (.seq (.region id ops false) c) Q σ :=
  AWp.seq (AWp.region (AOps.done hT (an := an) h hm k))
theorem AWp.regD (an : Ann) (hT : TOk P T) (hmix : P.follows .mixedOrders = true) {xs : List Rec} (h : ∀ A : Ar, A = Ar.std → runD A T an ops.toList ops.toList σ [] = .done σ' xs) (hok : okOrder ops.toList (xs.map Rec.foot) = true) (hm : m ≤ σ.heap.length) (k : AWp P m c Q σ') : AWp P m (.seq (.region id ops true) c) Q σ :=
  AWp.seq (AWp.regionDraw hmix hm (DOps.done hT (an := an) rfl h hok k))
theorem AWp.reg1 (an : Ann) (hT : TOk P T) (h : ∀ A : Ar, A = Ar.std → runP A T an ops.toList ops.toList σ = .done σ') (hm : m ≤ σ.heap.length) (k : Q .normal σ') : AWp P m (.region id ops false) Q σ :=
  AWp.region (AOps.done hT (an := an) h hm k)
theorem AWp.reg1D (an : Ann) (hT : TOk P T) (hmix : P.follows .mixedOrders = true) {xs : List Rec} (h : ∀ A : Ar, A = Ar.std → runD A T an ops.toList ops.toList σ [] = .done σ' xs) (hok : okOrder ops.toList (xs.map Rec.foot) = true) (hm : m ≤ σ.heap.length) (k : Q .normal σ') : AWp P m (.region id ops true) Q σ :=
  AWp.regionDraw hmix hm (DOps.done hT (an := an) rfl h hok k)

theorem AWp.keepThen (ts : List Nat) {K : St → Prop} (h : AWp P m c (AExit.then (fun σ => K (σ.keep ts)) Q) σ) : AWp P m c (AExit.then K Q) σ := by
  intro r n G a w hm R
  refine wpIn_mono (h r n G a w hm R) ?_
  rintro e a' w' ⟨σ', G', R', hE, hm', hQ⟩
  cases e with
  | normal => exact ⟨_, G', R'.keep ts, hE, hm', hQ⟩
  | _ => exact ⟨σ', G', R', hE, hm', hQ⟩

/-- A loop with an invariant; ts: the slots that the states speak of. -/
theorem AWp.loopInv {ι : Type} (Inv : ι → Prop) (μ : ι → Nat) (ts : List Nat) (S : ι → St) (i0 : ι) (hσ : σ.keep ts = S i0) (h0 : Inv i0)
    (h : ∀ i, Inv i → AWp P m c (AExit.then (fun σ' => ∃ j, Inv j ∧ μ j < μ i ∧ σ'.keep ts = S j) Q) (S i)) : AWp P m (.loop c) Q σ := by
  refine AWp.keep ts ?_
  rw [hσ]
  refine AWp.loop (ι := { i : ι // Inv i }) (fun i => μ i.1) (fun i => S i.1) ⟨i0, h0⟩ ?_
  rintro ⟨i, hi⟩
  refine AWp.keepThen ts (AWp.mono (h i hi) ?_)
  intro e σ' hq
  cases e with
  | normal => obtain ⟨j, hj, hl, e⟩ := hq; exact ⟨⟨j, hj⟩, hl, e⟩
  | _ => exact hq
end
end Go.Am

/- Letting go of objects; calls in drawn regions that are handed all objects. -/
set_option linter.unusedSimpArgs false
set_option linter.unusedSectionVars false
namespace Go.Am
open Go

theorem RepV.fewer {G : Gh} {w : World} {k : Nat} {ℓ : Loc} {av : AV} {v : Value} (h : RepV G w ℓ av v) : av.inb k = true → RepV { G with nh := k } w ℓ av v := by
  have tail : ∀ {ℓ : Loc} {k' : Nat} {v : Value}, Tail G w ℓ k' v → Tail { G with nh := k } w ℓ k' v := fun h => h
  induction h with
  | undef ℓ v => exact fun _ => .undef ℓ v
  | abool ℓ b => exact fun _ => .abool ℓ b
  | d ℓ x v h => exact fun _ => .d ℓ x v h
  | ptr ℓ a off ha => intro hb; simp [AV.inb] at hb; exact RepV.ptr (G := { G with nh := k }) ℓ a off hb
  | nilptr ℓ => exact fun _ => .nilptr ℓ
  | iptr ℓ cs b off vs hK h1 h => exact fun _ => .iptr ℓ cs b off vs hK h1 h
  | own ℓ k l v h ht => exact fun _ => .own ℓ k l v h (tail ht)
  | lim ℓ k l v h ht => exact fun _ => .lim ℓ k l v h ht
  | func ℓ f as bs va vb ha hb _ _ hc hc' ih ih' =>
    intro hbl
    simp [AV.inb] at hbl
    exact .func ℓ f as bs va vb ha hb (fun i hi => ih i hi (inbL_get hbl.1 i hi)) (fun i hi => ih' i hi (inbL_get hbl.2 i hi)) hc hc'
  | nilfunc ℓ => exact fun _ => .nilfunc ℓ
  | yield ℓ l hl => intro hb; simp [AV.inb] at hb; exact RepV.yield (G := { G with nh := k }) ℓ l hb
  | map ℓ a ha => intro hb; simp [AV.inb] at hb; exact RepV.map (G := { G with nh := k }) ℓ a hb
  | nilmap ℓ => exact fun _ => .nilmap ℓ
  | lbox t cs vs e hO hw hs _ hc ih =>
    intro hbl
    simp [AV.inb] at hbl
    exact RepV.lbox (G := { G with nh := k }) t cs vs e hO hw hs (fun j hj => ih j hj (inbL_get hbl j hj)) hc
  | place ℓ r off => exact fun _ => RepV.place (G := { G with nh := k }) ℓ r off
  | mref ℓ a k' lo n b off cap ha h1 h2 h3 h4 => intro hb; simp [AV.inb] at hb; exact RepV.mref (G := { G with nh := k }) ℓ a k' lo n b off cap hb h1 h2 h3 h4
  | eptr ℓ a k' i j ha hi => intro hb; simp [AV.inb] at hb; exact RepV.eptr (G := { G with nh := k }) ℓ a k' i j hb hi
  | agg ℓ cs vs hs _ hc hf ih =>
    intro hbl
    simp [AV.inb] at hbl
    exact .agg ℓ cs vs hs (fun i hi => ih i hi (inbL_get hbl i hi)) hc hf
  | tuple ℓ cs vs hs _ hc ih =>
    intro hbl
    simp [AV.inb] at hbl
    exact .tuple ℓ cs vs hs (fun i hi => ih i hi (inbL_get hbl i hi)) hc

theorem RelH.fewer {G : Gh} {H : List Obj} {w : World} (R : RelH G H w) {k : Nat} (hk : k ≤ H.length) (hb : objsInb k (H.take k) = true) : RelH { G with nh := k } (H.take k) w := by
  have hsub : Sub G { G with nh := k } w w (fun _ => True) k := ⟨KLe.refl _, fun b ℓ f _ hO => ⟨hO, rfl⟩, fun _ _ => rfl, Nat.le_refl _⟩
  refine ⟨⟨R.sane.no⟩, by simp; omega, fun i ob hob => ?_, R.kept, R.disj⟩
  have hi : i < k := by have := (List.getElem?_eq_some_iff.1 hob).1; simp at this; omega
  rw [List.getElem?_take_of_lt hi] at hob
  exact (R.objs i ob hob).sub R.sane hi hsub trivial (fun _ => trivial) (objsInb_get hb i ob (by rw [List.getElem?_take_of_lt hi]; exact hob))

/-- The slots that are kept, and the first k objects. -/
def St.fit (σ : St) (ts : List Nat) (k : Nat) : St := { σ with env := keepE σ.env ts, heap := σ.heap.take k }
def St.fits (σ : St) (ts : List Nat) (k : Nat) : Bool := Nat.ble k σ.heap.length && inbL k ((keepE σ.env ts).map (·.2)) && objsInb k (σ.heap.take k)

theorem Rel.fit {G : Gh} {σ : St} {a : Act} {w : World} (R : Rel G σ a w) {ts : List Nat} {k : Nat} (h : σ.fits ts k = true) : Rel { G with nh := k } (σ.fit ts k) a w := by
  simp only [St.fits, Bool.and_eq_true, Nat.ble_eq] at h
  obtain ⟨⟨h1, h2⟩, h3⟩ := h
  have R' := R.keep ts
  exact ⟨R.h.fewer h1 h3, R'.size, fun t => (R'.slots t).fewer (inbL_eget h2 t), R'.places, R'.df⟩
theorem Ext.nh {m : Nat} {G G' : Gh} {w w' : World} (h : Ext m G w G' w') (k : Nat) : Ext m G w { G' with nh := k } w' := ⟨h.K, h.new, h.others, h.size, h.β, h.io⟩

section
variable {P : Program} {T : Types} {m : Nat} {Q : Exit → St → Prop} {σ : St} {c : Code}
theorem AWp.fit (ts : List Nat) (k : Nat) (hm : m ≤ k) (hf : σ.fits ts k = true) (h : AWp P m c Q (σ.fit ts k)) : AWp P m c Q σ := by
  intro r n G a w hm' R
  refine wpIn_mono (h r n _ a w hm (R.fit hf)) ?_
  rintro e a' w' ⟨σ', G', R', hE, hm'', hQ⟩
  exact ⟨σ', G', R', ⟨hE.K, hE.new, hE.others, hE.size, hE.β, hE.io⟩, hm'', hQ⟩

/-- What is known between two parts. -/
theorem AWp.cut {x y : Code} (R : St → Prop) (h : AWp P m x (AExit.then R Q) σ) (k : ∀ σ', R σ' → AWp P m y Q σ') : AWp P m (.seq x y) Q σ := by
  refine AWp.seq (AWp.mono h ?_)
  intro e σ' hq
  cases e with
  | normal => exact k σ' hq
  | _ => exact hq
theorem AWp.fitThen (ts : List Nat) (k : Nat) (hm : m ≤ k) {K : St → Prop} (h : AWp P m c (AExit.then (fun σ => σ.fits ts k = true ∧ K (σ.fit ts k)) Q) σ) : AWp P m c (AExit.then K Q) σ := by
  intro r n G a w hm' R
  refine wpIn_mono (h r n G a w hm' R) ?_
  rintro e a' w' ⟨σ', G', R', hE, hm'', hQ⟩
  cases e with
  | normal => exact ⟨_, _, R'.fit hQ.1, hE.nh k, hm, hQ.2⟩
  | _ => exact ⟨σ', G', R', hE, hm'', hQ⟩

/-- A loop with an invariant; ts: the slots that the states speak of; k: how many objects there are. -/
theorem AWp.loopH {ι : Type} (Inv : ι → Prop) (μ : ι → Nat) (ts : List Nat) (k : Nat) (S : ι → St) (i0 : ι) (hm : m ≤ k) (hf : σ.fits ts k = true) (hσ : σ.fit ts k = S i0) (h0 : Inv i0)
    (h : ∀ i, Inv i → AWp P m c (AExit.then (fun σ' => σ'.fits ts k = true ∧ ∃ j, Inv j ∧ μ j < μ i ∧ σ'.fit ts k = S j) Q) (S i)) : AWp P m (.loop c) Q σ := by
  refine AWp.fit ts k hm hf ?_
  rw [hσ]
  refine AWp.loop (ι := { i : ι // Inv i }) (fun i => μ i.1) (fun i => S i.1) ⟨i0, h0⟩ ?_
  rintro ⟨i, hi⟩
  refine AWp.fitThen ts k hm (AWp.mono (h i hi) ?_)
  intro e σ' hq
  cases e with
  | normal => obtain ⟨h1, j, hj, hl, e⟩ := hq; exact ⟨h1, ⟨j, hj⟩, hl, e⟩
  | _ => exact hq
end

section
variable {P : Program} {T : Types} {m i : Nat} {ops : Array Oper} {σ : St} {o : Oper} {an : Ann}
/-- A call that is handed objects. -/
theorem LStep.callH (ho : ops[i]? = some o) {f : FuncId} {args : List AV} {r : AV} {H rest H' : List Obj} {d : Nat} (hw : wantA ops.toList σ o = some true) (hcall : callOf T σ o = some (f, args)) (hH : σ.heap = H ++ rest)
    (hr : rest = [] ∨ H'.length = H.length) (hin : objsInb H.length H = true)
    (hargs : inbL H.length args = true) (hd : o.dst = some d) (hlt : d < σ.n) (hb : (σ.get d).isBox = false) (hfr : args.all AV.free = true) (hc : ACall P f args H r H') :
    LStep P m ops i σ { sets := [(d, r)], heap := some (H' ++ rest), rd := operSlots ops.toList o, hr := true } := by
  intro τ hrd hhp hn hm
  have hheap : τ.heap = H ++ rest := (hhp rfl).trans hH
  obtain ⟨hcb, hrl, hri, hin', hHH, hcc⟩ := hc
  refine ⟨by rw [hheap] at hm; simp only [Rec.app, St.upd, Option.getD_some, List.length_append] at *; omega, fun rr n G a w Q' K R hK => ?_⟩
  have hdm : d ∈ operSlots ops.toList o := by simp [operSlots, hd]
  have hbτ : (τ.get d).isBox = false := by rw [hrd d hdm]; exact hb
  unfold wpOpIn
  simp only [ho]
  rw [if_pos (wantA_ok (b := true) (by rw [wantA_same (σ := σ) hrd]; exact hw) R)]
  obtain ⟨hnd, vs, hrun, hvs, hrep⟩ := callOf_ok (T := T) (by rw [callOf_same (σ := σ) hrd]; exact hcall) hcb R
  have RH : RelH G (H ++ rest) w := by rw [← hheap]; exact R.h
  have hRh := RH.handed hin
  have hfr' : ∀ c ∈ args, c.free = true := by simpa using hfr
  have hsub : Sub G (G.handed H.length) w w (fun ℓ => ℓ = .no) H.length :=
    ⟨KLe.refl _, fun b ℓ f hl hO => absurd (hl ▸ rfl) (R.h.sane.no b ℓ f hO), fun _ _ => rfl, Nat.le_refl _⟩
  refine ⟨fun _ _ => trivial, ?_⟩
  rw [Oper.semAt_eq _ _ _ hnd, hrun]
  refine ⟨fun hh => by simp [Wd] at hh, ?_⟩
  refine CallsIn.mono (callsIn_wd (hcc (n - 1) (G.handed H.length) w vs hvs (fun i hi => ?_) hRh (fun b ℓ f hO => ?_))) ?_
  · exact (hrep i hi).sub R.h.sane hsub rfl (inbL_get hargs i hi) (AV.free_isLocal (hfr' _ (List.getElem_mem hi)))
  · have := (handed_O hO).2
    cases ℓ <;> simp [objLoc] at this
    · rename_i i; exact ⟨i, rfl⟩
    · rename_i i j; exact ⟨i, rfl⟩
  · rintro e w' ⟨v, G3, rfl, hv, R3, hE⟩
    obtain ⟨R', hext⟩ := R.back (H := H) (rest := rest) hheap hr hHH R3 hE hin' hv hrl hri (by rw [hn]; exact hlt) hbτ
    show K (a.put o.dst v) w'
    rw [hd]
    refine hK _ _ w' ?_ (hext m (by rw [← R.h.nh]; exact hm))
    simpa [Rec.app, St.upd, esets] using R'

variable {K : St → Prop} {l : List Oper} {xs : List Rec}
theorem DOps.stepCallH (hT : TOk P T) {f : FuncId} {args : List AV} {o : Oper} {rest : List Oper} {σ1 : St} {xs1 : List Rec} {r : AV} {H Hr H' : List Obj} {d : Nat} (hl : l = ops.toList.drop xs.length) (h : ∀ A : Ar, A = Ar.std → runD A T an ops.toList l σ xs = .call f args o rest σ1 xs1)
    (hH : σ1.heap = H ++ Hr) (hr : Hr = [] ∨ H'.length = H.length) (hin : objsInb H.length H = true) (hargs : inbL H.length args = true) (hd : o.dst = some d) (hlt : d < σ1.n) (hb : (σ1.get d).isBox = false) (hfr : args.all AV.free = true) (hc : ACall P f args H r H')
    (k : DOps P m ops rest (xs1 ++ [{ sets := [(d, r)], heap := some (H' ++ Hr), rd := operSlots ops.toList o, hr := true }]) K (σ1.upd [(d, r)] (some (H' ++ Hr)))) : DOps P m ops l xs K σ :=
  DOps.run (an := an) hT l xs σ hl (by
    rw [h _ rfl]
    exact fun hcall hw ho => DOps.cons (LStep.callH ho hw hcall hH hr hin hargs hd hlt hb hfr hc) k)

/-- Over a call that is handed all objects. -/
theorem AOps.stepCallW (hT : TOk P T) {Q : Exit → St → Prop} {f : FuncId} {args : List AV} {o : Oper} {rest : List Oper} {σ1 : St} {H' : List Obj} {r : AV} {d : Nat} (h : ∀ A : Ar, A = Ar.std → runP A T an ops.toList l σ = .call f args o rest σ1)
    (hm : m ≤ σ.heap.length) (hin : objsInb σ1.heap.length σ1.heap = true) (hargs : inbL σ1.heap.length args = true) (hd : o.dst = some d) (hlt : d < σ1.n) (hb : (σ1.get d).isBox = false)
    (hfr : args.all AV.free = true) (hc : ACall P f args σ1.heap r H') (k : AOps P m ops rest Q { σ1 with env := eset σ1.env d r, heap := H' }) : AOps P m ops l Q σ :=
  AOps.stepCall hT (an := an) (Hr := []) h hm (List.append_nil _).symm (.inl rfl) hin hargs hd hlt hb hfr hc (by rw [List.append_nil]; exact k)
end
end Go.Am

/- Lists that are made free to be changed, and lists that are left as they are. -/
set_option linter.unusedSimpArgs false
set_option linter.unusedSectionVars false
set_option linter.unusedVariables false
namespace Go.Am
open Go

def D.scalar : D → Bool
  | .int .. | .bool _ | .str _ | .nilIface => true
  | _ => false
theorem RepD.scalar {K K' : Addr → Option Value} {x : D} {v : Value} (hs : x.scalar = true) (h : RepD K x v) : RepD K' x v := by
  cases h <;> first | (simp [D.scalar] at hs; done) | constructor
def scalars (l : List D) : Bool := l.all fun x => x.cells.all D.scalar
theorem scalars_flat {l : List D} (h : scalars l = true) : ∀ x ∈ D.flat l, x.scalar = true := by
  intro x hx
  unfold D.flat at hx
  obtain ⟨y, hy, hxy⟩ := List.mem_flatMap.1 hx
  have := List.all_eq_true.1 h y hy
  exact List.all_eq_true.1 this x hxy

/-- What a function returns as its own, its caller may change. -/
theorem ACall.thaw {P : Program} {f : FuncId} {args : List AV} {k : Nat} {l : List D} (hc : ACall P f args [] (.own k l) []) (hargs : inbL 0 args = true) (hfree : args.all AV.free = true) (hl : l ≠ []) (hs : scalars l = true)
    {H : List Obj} (hin : objsInb (H.length + 1) (H ++ [.arr k l]) = true) {n : Int} (hn : (l.length : Int) = n) : ACall P f args H (.mref H.length k 0 n) (H ++ [.arr k l]) := by
  obtain ⟨h1, _, _, _, _, h⟩ := hc
  refine ⟨h1, rfl, by simp [AV.inb], by simpa using hin, by simp, ?_⟩
  intro N G w vs hvs hrep R hO
  have R0 := R.handed (H := []) (rest := H) rfl
  have hsub : Sub G (G.handed 0) w w (fun ℓ => ℓ = .no) 0 :=
    ⟨KLe.refl _, fun b ℓ f hl hO => absurd (hl ▸ rfl) (R.sane.no b ℓ f hO), fun _ _ => rfl, Nat.le_refl _⟩
  have hfree' : ∀ c ∈ args, c.free = true := by simpa using hfree
  have hnone : ∀ b, (G.handed 0).O b = none := fun b => handed_none (by intro ℓ f _; cases ℓ <;> simp [objLoc])
  refine CallsIn.mono (h N (G.handed 0) w vs hvs (fun i hi => (hrep i hi).sub R.sane hsub rfl (inbL_get hargs i hi) (AV.free_isLocal (hfree' _ (List.getElem_mem hi)))) R0 (fun b ℓ f hb => by rw [hnone] at hb; cases hb)) ?_
  rintro e w' ⟨v, G3, rfl, hv, R3, hE⟩
  cases hv with | own _ _ _ _ hr ht =>
  rcases hr.slice with ⟨rfl, _⟩ | ⟨b, off, cap, hvv⟩
  · exact absurd rfl hl
  have hlen : 0 < l.length := List.length_pos_iff.2 hl
  have hcap : l.length ≤ cap := by
    rw [hvv] at hr
    generalize hv' : Value.slice (some ⟨b, off, none⟩) l.length cap = v at hr
    cases hr with
    | nil => simp at hv'
    | none0 => simp
    | list k l b' off' cap' vs hu hc => simp at hv'; omega
  obtain ⟨fr, c, e0, t1, t2, t3, t4, t5⟩ := ht _ _ _ hvv (by omega)
  dsimp only at t1 t2 t3 t4 t5
  subst t5
  -- the block is new
  have hnew : w.heap.size ≤ b := by
    rcases Nat.lt_or_ge b w.heap.size with hb | hb
    · have := (hE.others b hb (hnone b)).2
      rw [this] at t1; cases t1
    · exact hb
  have hblt : b < w'.heap.size := (Array.getElem?_eq_some_iff.1 t3).1
  have hold : ∀ b', b' < w.heap.size → w'.heap[b']? = w.heap[b']? := fun b' hb => (hE.others b' hb (hnone b')).1
  let G' : Gh := { K := G.K, O := fun x => if x = b then some (.o H.length, 0) else G.O x, β := fun r => if r = .o H.length then b else G.β r, nh := H.length + 1 }
  have hnh : H.length = G.nh := R.nh
  have hβold : ∀ i, i < H.length → G'.β (.o i) = G.β (.o i) := by
    intro i hi
    simp only [G', Root.o.injEq]
    rw [if_neg (by omega)]
  have hOold : ∀ b' x f', G.O b' = some (x, f') → G'.O b' = some (x, f') := by
    intro b' x f' h
    have := (R.disj b' x f' h).1
    simp only [G']
    rw [if_neg (by omega)]; exact h
  have hpr : Pres G G' w w' (fun _ => True) :=
    ⟨KLe.refl _, fun b' x f' _ h => ⟨hOold b' x f' h, hold b' (R.disj b' x f' h).1⟩, fun i hi => hβold i (by omega), by simp only [G']; omega⟩
  obtain ⟨hu, hK, hKK, h1c, hh⟩ : uniform k l ∧ ∃ vs : Nat → Value, (∀ j, j < (D.flat l).length → G3.K ⟨b, 0 + j, none⟩ = some (vs j)) ∧ (∀ j, j < (D.flat l).length → (vs j).oneCell' = true) ∧ ∀ (j : Nat) (hj : j < (D.flat l).length), RepD G3.K (D.flat l)[j] (vs j) := by
    rw [hvv] at hr
    generalize hv' : Value.slice (some ⟨b, 0, none⟩) l.length cap = v at hr
    cases hr with
    | nil => simp at hv'
    | none0 => exact absurd rfl hl
    | list k l b' off' cap' vs hu hc hK h1 hh =>
      simp at hv'
      obtain ⟨⟨rfl, rfl⟩, _⟩ := hv'
      exact ⟨hu, vs, hK, h1, hh⟩
  have hfl := flat_length hu
  have hsz : (D.flat l).length ≤ c.size := by
    have : l.length * k ≤ cap * k := Nat.mul_le_mul_right k hcap
    omega
  have hcell : ∀ j, j < (D.flat l).length → c.getD j Go.undef = hK j := by
    intro j hj
    have := R3.kept _ _ (hKK j hj)
    rw [Nat.zero_add] at this
    have h2 := cell_at t3 (show j < c.size by omega)
    rw [this] at h2
    exact (Option.some.inj h2).symm
  refine ⟨v, G', rfl, ?_, ⟨⟨fun b' ℓ f' h => ?_⟩, by simp [G'], fun i ob hob => ?_, fun x v h => ?_, fun b' ℓ f' h => ?_⟩, ⟨KLe.refl _, fun x v h => .inl h, fun b' hb hO' => ⟨hold b' hb, ?_⟩, hE.size, fun i hi => hβold i hi, hE.io⟩⟩
  · rw [hvv, ← hn]
    have := RepV.mref (G := G') (w := w') .ret H.length k 0 (l.length : Int) b 0 cap (by simp [G']) (Int.le_refl _) (by omega) (by simpa using hcap) (fun _ => ⟨by simp [G'], by simp⟩)
    simpa using this
  · simp only [G'] at h
    split at h
    · simp at h; rw [← h.1]; simp [Loc.root]
    · exact R.sane.no b' ℓ f' h
  · rcases Nat.lt_or_ge i H.length with hi | hi
    · rw [List.getElem?_append_left hi] at hob
      exact (R.objs i ob hob).pres R.sane (by omega) hpr trivial (fun _ => trivial)
    · have hi' : i = H.length := by
        have := (List.getElem?_eq_some_iff.1 hob).1
        simp at this; omega
      subst hi'
      simp at hob
      subst hob
      refine ⟨c, e0, by simp [G'], by simpa [G'] using t3, hu, hsz, fun j hj => ?_, fun j hj => ?_⟩
      · rw [hcell j hj]; exact h1c j hj
      · rw [hcell j hj]
        exact (hh j hj).scalar (scalars_flat hs _ (List.getElem_mem hj))
  · have hx := R.kept x v h
    have hb := World.block_lt_of_cell? w _ hx
    unfold World.cell? at *
    rwa [hold _ hb]
  · simp only [G'] at h ⊢
    split at h
    · rename_i hbe; subst hbe
      refine ⟨hblt, fun j _ => ?_⟩
      cases hK : G.K ⟨b', j, none⟩ with
      | none => rfl
      | some v => 
        have := World.block_lt_of_cell? w _ (R.kept _ _ hK)
        simp at this; omega
    · have := R.disj b' ℓ f' h
      exact ⟨by have := hE.size; omega, this.2⟩
  · simp only [G']
    rw [if_neg (by omega)]; exact hO'

/-- A list that may be changed is left as it is. -/
theorem Rel.freeze {G : Gh} {σ : St} {a : Act} {w : World} (R : Rel G σ a w) {s i k : Nat} {lo n : Int} {l : List D} (hs : σ.get s = .mref i k lo n) (hi : σ.heap[i]? = some (.arr k l)) (hfit : lo + n ≤ l.length) :
    ∃ G', Rel G' { σ with env := eset σ.env s (.d (.list k (Ar.std.sub l lo (lo + n)))), heap := σ.heap.set i .dead } a w ∧ ∀ m, Ext m G w G' w := by
  have hrep := R.slots s
  rw [hs] at hrep
  generalize hv : a.tmps.getD s Go.undef = v at hrep
  cases hrep with | mref _ _ _ _ _ b off cap hnh hlo hn hcap hbo =>
  obtain ⟨vs, e, hO, hw, hu, hsz, h1, hh⟩ := R.h.objs i _ hi
  have hil : i < σ.heap.length := (List.getElem?_eq_some_iff.1 hi).1
  have hfl := flat_length hu
  let B := G.β (.o i)
  let G' : Gh := { G with K := fun x => if x.block = B ∧ x.spot = none ∧ x.off < (D.flat l).length then some (vs.getD x.off Go.undef) else G.K x, O := fun x => if x = B then none else G.O x }
  have hdisj := R.h.disj _ _ _ hO
  have hKle : KLe G.K G'.K := by
    intro x v h
    simp only [G']
    rw [if_neg]; exact h
    rintro ⟨hb, hsp, _⟩
    obtain ⟨xb, xo, xs⟩ := x
    simp at hb hsp; subst hb hsp
    rw [hdisj.2 xo (Nat.zero_le _)] at h; cases h
  have hOold : ∀ b' x f', x ≠ .o i → G.O b' = some (x, f') → G'.O b' = some (x, f') := by
    intro b' x f' hx h
    have : b' ≠ B := by rintro rfl; rw [show G.O B = _ from hO] at h; simp at h; exact hx h.1.symm
    simp only [G']; rw [if_neg this]; exact h
  have hpr : Pres G G' w w (fun x => x ≠ .o i) :=
    ⟨hKle, fun b' x f' hx h => ⟨hOold b' x f' hx h, rfl⟩, fun _ _ => rfl, Nat.le_refl _⟩
  have hkept : ∀ x v, G'.K x = some v → w.cell? x = some v := by
    intro x v h
    simp only [G'] at h
    split at h
    · rename_i hc
      obtain ⟨xb, xo, xs⟩ := x
      obtain ⟨h1', h2', h3'⟩ := hc
      simp at h1' h2' h3' h
      subst h1' h2'
      rw [cell_at hw (by omega)]
      simpa using h
    · exact R.h.kept x v h
  obtain ⟨LO, rfl⟩ := Int.eq_ofNat_of_zero_le hlo
  obtain ⟨N, rfl⟩ := Int.eq_ofNat_of_zero_le hn
  have hsubl : Ar.std.sub l LO (LO + N) = (l.drop LO).take N := by
    simp only [Ar.std]
    congr 1
    all_goals omega
  -- the list that it is
  have hlist : RepD G'.K (.list k ((l.drop LO).take N)) (.slice (some ⟨b, off, none⟩) N cap) := by
    by_cases hN : N = 0
    · subst hN
      simp only [List.take_zero]
      exact RepD.empty _ _ _ _ _
    · obtain ⟨rfl, rfl⟩ := hbo (by omega)
      simp only [Int.toNat_natCast]
      have hus := hu.sub LO N
      have hln : ((l.drop LO).take N).length = N := by simp; omega
      have hfe : D.flat ((l.drop LO).take N) = ((D.flat l).drop (LO * k)).take (N * k) := by
        rw [flat_take (fun x hx => hu x (List.mem_of_mem_drop hx)), flat_drop hu]
      have hflN := flat_length hus
      have hmul : LO * k + N * k ≤ l.length * k := by rw [← Nat.add_mul]; exact Nat.mul_le_mul_right _ (by omega)
      have hgetj : ∀ (j : Nat) (hj : j < (D.flat ((l.drop LO).take N)).length), (D.flat ((l.drop LO).take N))[j] = (D.flat l)[LO * k + j]'(by rw [hflN, hln] at hj; omega) := by
        intro j hj
        simp only [hfe, List.getElem_take, List.getElem_drop]
      have := RepD.list (K := G'.K) k ((l.drop LO).take N) (G.β (.o i)) (LO * k) cap (fun j => vs.getD (LO * k + j) Go.undef) hus (by rw [hln]; simpa using hcap)
        (fun j hj => by
          rw [hflN, hln] at hj
          have hjj : LO * k + j < (D.flat l).length := by omega
          simp [G', B, hjj])
        (fun j hj => by rw [hflN, hln] at hj; exact h1 _ (by omega))
        (fun j hj => by
          rw [hgetj j hj]
          rw [hflN, hln] at hj
          exact (hh _ (by omega)).mono hKle)
      rwa [hln] at this
  refine ⟨G', ⟨⟨⟨fun b' x f' h => ?_⟩, by simpa [G'] using R.h.nh, fun i' ob hob => ?_, hkept, fun b' x f' h => ?_⟩, R.size, fun t => ?_, fun t r off' ht => ?_, ?_⟩, fun m => ⟨hKle, fun x v h => ?_, fun b' hb h => ⟨rfl, ?_⟩, Nat.le_refl _, fun _ _ => rfl, rfl, rfl, fun _ => rfl⟩⟩
  · simp only [G'] at h
    split at h
    · cases h
    · exact R.h.sane.no b' x f' h
  · by_cases hii : i = i'
    · subst hii
      simp [List.getElem?_set_self hil] at hob
      subst hob; trivial
    · simp only at hob
      rw [List.getElem?_set_ne hii] at hob
      exact (R.h.objs i' ob hob).pres R.h.sane (by rw [← R.h.nh]; exact (List.getElem?_eq_some_iff.1 hob).1) hpr (by simp; exact fun e => hii e.symm) (by simp)
  · simp only [G'] at h ⊢
    split at h
    · cases h
    · rename_i hne
      refine ⟨(R.h.disj b' x f' h).1, fun j hj => ?_⟩
      rw [if_neg (by intro hc; exact hne hc.1)]
      exact (R.h.disj b' x f' h).2 j hj
  · simp only [St.get, eget_eset]
    split
    · rename_i e'; subst e'
      rw [hv, hsubl]
      exact .d _ _ _ (by simpa using hlist)
    · exact (R.slots t).pres R.h.sane hpr (by simp) (fun _ _ _ => rfl) (fun t' e' _ => ⟨rfl, fun j => by simp⟩)
  · simp only [St.get, eget_eset] at ht ⊢
    split at ht
    · cases ht
    · obtain ⟨cs, hcs⟩ := R.places t r off' ht
      refine ⟨cs, ?_⟩
      split
      · rename_i e'; subst e'; rw [show σ.get s = .lbox cs from hcs] at hs; cases hs
      · exact hcs
  · refine ⟨R.df.1, fun x hx => ?_⟩
    obtain ⟨r0, h1, h2, h3⟩ := R.df.2 x hx
    exact ⟨r0, h1, hOold _ _ _ (by simp) h2, h3⟩
  · simp only [G'] at h
    split at h
    · rename_i hc; exact .inr (.inl ⟨_, by rw [hc.1]; exact hO⟩)
    · exact .inl h
  · simp only [G']; split
    · rfl
    · exact h

/-- A box whose cells stay from now on. -/
theorem Rel.freezeBox {G : Gh} {σ : St} {a : Act} {w : World} (R : Rel G σ a w) {s : Nat} {cs : List D} (hs : σ.get s = .lbox (cs.map .d)) (hp : ∀ t off, σ.get t ≠ .place s off) :
    ∃ G', Rel G' { σ with env := eset σ.env s (.iptr cs) } a w ∧ ∀ m, Ext m G w G' w := by
  obtain ⟨vs, e, hO, hw, hsz, hh, hcell, hat⟩ := box_rep R hs
  rw [List.length_map] at hsz
  let B := G.β (.s s)
  let G' : Gh := { G with K := fun x => if x.block = B ∧ x.spot = none ∧ x.off < cs.length then some (vs.getD x.off Go.undef) else G.K x, O := fun x => if x = B then none else G.O x }
  have hdisj := R.h.disj _ _ _ hO
  have hKle : KLe G.K G'.K := by
    intro x v h
    simp only [G']
    rw [if_neg]; exact h
    rintro ⟨hb, hsp, _⟩
    obtain ⟨xb, xo, xs⟩ := x
    simp at hb hsp; subst hb hsp
    rw [hdisj.2 xo (Nat.zero_le _)] at h; cases h
  have hOold : ∀ b' x f', x ≠ .s s → G.O b' = some (x, f') → G'.O b' = some (x, f') := by
    intro b' x f' hx h
    have : b' ≠ B := by rintro rfl; rw [show G.O B = _ from hO] at h; simp at h; exact hx h.1.symm
    simp only [G']; rw [if_neg this]; exact h
  have hpr : Pres G G' w w (fun x => x ≠ .s s) :=
    ⟨hKle, fun b' x f' hx h => ⟨hOold b' x f' hx h, rfl⟩, fun _ _ => rfl, Nat.le_refl _⟩
  have hkept : ∀ x v, G'.K x = some v → w.cell? x = some v := by
    intro x v h
    simp only [G'] at h
    split at h
    · rename_i hc
      obtain ⟨xb, xo, xs⟩ := x
      obtain ⟨h1', h2', h3'⟩ := hc
      simp at h1' h2' h3' h
      subst h1' h2'
      rw [cell_at hw (by omega)]
      simpa using h
    · exact R.h.kept x v h
  refine ⟨G', ⟨⟨⟨fun b' x f' h => ?_⟩, by simpa [G'] using R.h.nh, fun i' ob hob => ?_, hkept, fun b' x f' h => ?_⟩, R.size, fun t => ?_, fun t r off' ht => ?_, ?_⟩, fun m => ⟨hKle, fun x v h => ?_, fun b' hb h => ⟨rfl, ?_⟩, Nat.le_refl _, fun _ _ => rfl, rfl, rfl, fun _ => rfl⟩⟩
  · simp only [G'] at h
    split at h
    · cases h
    · exact R.h.sane.no b' x f' h
  · exact (R.h.objs i' ob hob).pres R.h.sane (by rw [← R.h.nh]; exact (List.getElem?_eq_some_iff.1 hob).1) hpr (by simp) (by simp)
  · simp only [G'] at h ⊢
    split at h
    · cases h
    · rename_i hne
      refine ⟨(R.h.disj b' x f' h).1, fun j hj => ?_⟩
      rw [if_neg (by intro hc; exact hne hc.1)]
      exact (R.h.disj b' x f' h).2 j hj
  · simp only [St.get, eget_eset]
    split
    · rename_i e'; subst e'
      rw [hat]
      refine .iptr _ _ _ _ (fun j => vs.getD j Go.undef) (fun j hj => ?_) (fun j hj => ?_) (fun j hj => ?_)
      · simp [G', B, hj]
      · exact (hh j (by simpa using hj)).oneCell (hcell _ (List.getElem_mem _))
      · have := hh j (by simpa using hj)
        rw [List.getElem_map] at this
        cases this with | d _ _ _ h => exact h.mono hKle
    · rename_i hne
      exact (R.slots t).pres R.h.sane hpr (by simp; exact fun e => hne e.symm) (fun _ _ _ => rfl) (fun t' e' _ => ⟨rfl, fun j => by simp⟩)
  · simp only [St.get, eget_eset] at ht ⊢
    split at ht
    · cases ht
    · obtain ⟨cs, hcs⟩ := R.places t r off' ht
      refine ⟨cs, ?_⟩
      split
      · rename_i e'; subst e'; exact absurd ht (hp t off')
      · exact hcs
  · refine ⟨R.df.1, fun x hx => ?_⟩
    obtain ⟨r0, h1, h2, h3⟩ := R.df.2 x hx
    exact ⟨r0, h1, hOold _ _ _ (by simp) h2, h3⟩
  · simp only [G'] at h
    split at h
    · rename_i hc; exact .inr (.inl ⟨_, by rw [hc.1]; exact hO⟩)
    · exact .inl h
  · simp only [G']; split
    · rfl
    · exact h

def AV.placeOf (s : Nat) : AV → Bool
  | .place r _ => r == s
  | _ => false
theorem noPlace {s : Nat} : ∀ {env : List (Nat × AV)}, env.all (fun p => !p.2.placeOf s) = true → ∀ t off, eget env t ≠ .place s off
  | [], _, t, off => by simp [eget]
  | (u, v) :: r, h, t, off => by
    simp only [List.all_cons, Bool.and_eq_true] at h
    simp only [eget]
    split
    · rintro rfl; simp [AV.placeOf] at h
    · exact noPlace h.2 t off

section
variable {P : Program} {m : Nat} {Q : Exit → St → Prop} {σ : St} {c : Code}
theorem AWp.freeze {s i k : Nat} {lo n : Int} {l l' : List D} (hs : σ.get s = .mref i k lo n) (hi : σ.heap[i]? = some (.arr k l)) (hfit : lo + n ≤ l.length) (hl : Ar.std.sub l lo (lo + n) = l')
    (h : AWp P m c Q { σ with env := eset σ.env s (.d (.list k l')), heap := σ.heap.set i .dead }) : AWp P m c Q σ := by
  intro r n' G a w hm R
  obtain ⟨G', R', hE⟩ := R.freeze hs hi hfit
  rw [hl] at R'
  refine wpIn_mono (h r n' G' a w (by have h1 := R'.h.nh; have h2 := R.h.nh; simp at h1; omega) R') ?_
  rintro e a' w' ⟨σ', G2, R2, hE2, hm2, hQ⟩
  exact ⟨σ', G2, R2, (hE m).trans hE2, hm2, hQ⟩
theorem AOps.freeze {ops : Array Oper} {os : List Oper} {s i k : Nat} {lo n : Int} {l l' : List D} (hs : σ.get s = .mref i k lo n) (hi : σ.heap[i]? = some (.arr k l)) (hfit : lo + n ≤ l.length) (hl : Ar.std.sub l lo (lo + n) = l')
    (h : AOps P m ops os Q { σ with env := eset σ.env s (.d (.list k l')), heap := σ.heap.set i .dead }) : AOps P m ops os Q σ := by
  intro r n' G a w Q' hm R hQ
  obtain ⟨G', R', hE⟩ := R.freeze hs hi hfit
  rw [hl] at R'
  refine h r n' G' a w Q' (by have h1 := R'.h.nh; have h2 := R.h.nh; simp at h1; omega) R' ?_
  rintro e a' w' ⟨σ', G2, R2, hE2, hm2, hq⟩
  exact hQ e a' w' ⟨σ', G2, R2, (hE m).trans hE2, hm2, hq⟩
theorem AWp.freezeBox (s : Nat) (cs : List D) (hs : σ.get s = .lbox (cs.map .d)) (hp : σ.env.all (fun p => !p.2.placeOf s) = true)
    (h : AWp P m c Q { σ with env := eset σ.env s (.iptr cs) }) : AWp P m c Q σ := by
  intro r n' G a w hm R
  obtain ⟨G', R', hE⟩ := R.freezeBox hs (noPlace hp)
  refine wpIn_mono (h r n' G' a w (by have h1 := R'.h.nh; have h2 := R.h.nh; simp at h1; omega) R') ?_
  rintro e a' w' ⟨σ', G2, R2, hE2, hm2, hQ⟩
  exact ⟨σ', G2, R2, (hE m).trans hE2, hm2, hQ⟩
end
end Go.Am
