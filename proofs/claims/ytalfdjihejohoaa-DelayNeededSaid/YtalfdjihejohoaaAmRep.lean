/- What abstract values say of a world: K: cells that stay; O: blocks that are owned, and from which cell on. -/
import Derived.Test.YtalfdjihejohoaaAmDefs
namespace Go.Am

inductive Root where
  | s (t : Nat)
  | o (i : Nat)
  | ret
  | df
  | no
  deriving DecidableEq
inductive Loc where
  | s (t : Nat)
  | sc (t j : Nat)
  | o (i : Nat)
  | oc (i j : Nat)
  | ret
  | df
  | no
  deriving DecidableEq
def Loc.root : Loc → Root
  | .s t | .sc t _ => .s t
  | .o i | .oc i _ => .o i
  | .ret => .ret
  | .df => .df
  | .no => .no

structure Gh where
  K : Addr → Option Value
  O : Nat → Option (Loc × Nat)
  β : Root → Nat
  nh : Nat

def uniform (k : Nat) (l : List D) : Prop := ∀ x ∈ l, x.cells.length = k

inductive RepD (K : Addr → Option Value) : D → Value → Prop
  | bool (b : Bool) : RepD K (.bool b) (.bool b)
  | int (k : IntKind) (n : Int) : RepD K (.int k n) (.int k n)
  | str (s : ByteArray) : RepD K (.str s) (.string s)
  | nilIface : RepD K .nilIface .nilIface
  | iface (t : TypeId) (x : D) (v : Value) (h : RepD K x v) : RepD K (.iface t x) (.iface t v)
  | agg (cs : List D) (vs : Array Value) (hs : vs.size = cs.length) (h : ∀ (i : Nat) (hi : i < cs.length), RepD K cs[i] (vs.getD i undef)) (h1 : ∀ v ∈ vs, v.oneCell' = true) : RepD K (.agg cs) (.agg vs)
  | nil (k : Nat) : RepD K (.list k []) (.slice none 0 0)
  | none0 (k : Nat) (a : Addr) : RepD K (.list k []) (.slice (some a) 0 0)
  | list (k : Nat) (l : List D) (b off cap : Nat) (vs : Nat → Value) (hu : uniform k l) (hc : l.length ≤ cap)
      (hK : ∀ j, j < (D.flat l).length → K ⟨b, off + j, none⟩ = some (vs j)) (h1 : ∀ j, j < (D.flat l).length → (vs j).oneCell' = true) (h : ∀ (j : Nat) (hj : j < (D.flat l).length), RepD K (D.flat l)[j] (vs j)) :
      RepD K (.list k l) (.slice (some ⟨b, off, none⟩) l.length cap)

def KLe (K K' : Addr → Option Value) : Prop := ∀ x v, K x = some v → K' x = some v
theorem KLe.refl (K : Addr → Option Value) : KLe K K := fun _ _ h => h
theorem KLe.trans {K K' K'' : Addr → Option Value} (h : KLe K K') (h' : KLe K' K'') : KLe K K'' := fun x v e => h' x v (h x v e)

theorem RepD.mono {K K' : Addr → Option Value} (hK : KLe K K') {x : D} {v : Value} (h : RepD K x v) : RepD K' x v := by
  induction h with
  | bool b => exact .bool b
  | int k n => exact .int k n
  | str s => exact .str s
  | nilIface => exact .nilIface
  | iface t x v _ ih => exact .iface t x v ih
  | agg cs vs hs _ h1 ih => exact .agg cs vs hs ih h1
  | nil k => exact .nil k
  | none0 k a => exact .none0 k a
  | list k l b off cap vs hu hc hk h1 _ ih => exact .list k l b off cap vs hu hc (fun j hj => hK _ _ (hk j hj)) h1 ih

theorem RepD.zero (K : Addr → Option Value) (k : Nat) (a : Option Addr) : RepD K (.list k []) (.slice a 0 0) := by
  cases a with
  | none => exact .nil k
  | some a => exact .none0 k a

/-- An owned list may be appended to in place: what lies behind it is its owner's. -/
def Tail (G : Gh) (w : World) (ℓ : Loc) (k : Nat) (v : Value) : Prop :=
  ∀ (a : Addr) (n cap : Nat), v = .slice (some a) n cap → 0 < cap →
    ∃ f c e, G.O a.block = some (ℓ, f) ∧ f ≤ a.off + n * k ∧ w.heap[a.block]? = some (.cells c e (0, 0)) ∧ a.off + cap * k ≤ c.size ∧ a.off = 0

/-- A value that bears no right. -/
def AV.free : AV → Bool
  | .own .. | .lim .. | .lbox _ | .place .. => false
  | _ => true
/-- A place or a box: it lies in a slot alone. -/
def AV.isLocal : AV → Bool
  | .place .. | .lbox _ => true
  | _ => false

inductive RepV (G : Gh) (w : World) : Loc → AV → Value → Prop
  | undef (ℓ : Loc) (v : Value) : RepV G w ℓ .undef v
  | abool (ℓ : Loc) (b : Bool) : RepV G w ℓ .abool (.bool b)
  | d (ℓ : Loc) (x : D) (v : Value) (h : RepD G.K x v) : RepV G w ℓ (.d x) v
  | ptr (ℓ : Loc) (a off : Nat) (ha : a < G.nh) : RepV G w ℓ (.ptr a off) (.pointer (some ⟨G.β (.o a), off, none⟩))
  | nilptr (ℓ : Loc) : RepV G w ℓ .nilptr (.pointer none)
  | iptr (ℓ : Loc) (cs : List D) (b off : Nat) (vs : Nat → Value) (hK : ∀ j, j < cs.length → G.K ⟨b, off + j, none⟩ = some (vs j))
      (h1 : ∀ j, j < cs.length → (vs j).oneCell' = true) (h : ∀ (j : Nat) (hj : j < cs.length), RepD G.K cs[j] (vs j)) : RepV G w ℓ (.iptr cs) (.pointer (some ⟨b, off, none⟩))
  | own (ℓ : Loc) (k : Nat) (l : List D) (v : Value) (h : RepD G.K (.list k l) v) (ht : Tail G w ℓ k v) : RepV G w ℓ (.own k l) v
  | lim (ℓ : Loc) (k : Nat) (l : List D) (v : Value) (h : RepD G.K (.list k l) v) (ht : ∀ a n cap, v = .slice a n cap → n = cap) : RepV G w ℓ (.lim k l) v
  | func (ℓ : Loc) (f : FuncId) (as bs : List AV) (va vb : Array Value) (ha : va.size = as.length) (hb : vb.size = bs.length)
      (h : ∀ (i : Nat) (hi : i < as.length), RepV G w .no as[i] (va.getD i Go.undef)) (h' : ∀ (i : Nat) (hi : i < bs.length), RepV G w .no bs[i] (vb.getD i Go.undef))
      (hc : ∀ c ∈ as, c.isLocal = false) (hc' : ∀ c ∈ bs, c.isLocal = false) :
      RepV G w ℓ (.func f as bs) (.func (.func f) va vb)
  | nilfunc (ℓ : Loc) : RepV G w ℓ .nilfunc .nilFunc
  | yield (ℓ : Loc) (l : Nat) (hl : l < G.nh) : RepV G w ℓ (.yield l) (.func (.yield (G.β (.o l))) #[] #[])
  | map (ℓ : Loc) (a : Nat) (ha : a < G.nh) : RepV G w ℓ (.map a) (.map (some (G.β (.o a))))
  | nilmap (ℓ : Loc) : RepV G w ℓ .nilmap (.map none)
  | lbox (t : Nat) (cs : List AV) (vs : Array Value) (e : TypeId) (hO : G.O (G.β (.s t)) = some (.s t, 0)) (hw : w.heap[G.β (.s t)]? = some (.cells vs e (0, 0)))
      (hs : vs.size = cs.length) (h : ∀ (j : Nat) (hj : j < cs.length), RepV G w (.sc t j) cs[j] (vs.getD j Go.undef)) (hc : ∀ c ∈ cs, c.isCell = true) :
      RepV G w (.s t) (.lbox cs) (.pointer (some ⟨G.β (.s t), 0, none⟩))
  | place (ℓ : Loc) (r off : Nat) : RepV G w ℓ (.place r off) (.pointer (some ⟨G.β (.s r), off, none⟩))
  | mref (ℓ : Loc) (a k : Nat) (lo n : Int) (b off cap : Nat) (ha : a < G.nh) (hlo : 0 ≤ lo) (hn : 0 ≤ n) (hc : n.toNat ≤ cap) (hb : 0 < n → b = G.β (.o a) ∧ off = lo.toNat * k) : RepV G w ℓ (.mref a k lo n) (.slice (some ⟨b, off, none⟩) n.toNat cap)
  | eptr (ℓ : Loc) (a k : Nat) (i : Int) (j : Nat) (ha : a < G.nh) (hi : 0 ≤ i) : RepV G w ℓ (.eptr a k i j) (.pointer (some ⟨G.β (.o a), i.toNat * k + j, none⟩))
  | agg (ℓ : Loc) (cs : List AV) (vs : Array Value) (hs : vs.size = cs.length) (h : ∀ (i : Nat) (hi : i < cs.length), RepV G w .no cs[i] (vs.getD i Go.undef))
      (hc : ∀ c ∈ cs, c.isCell = true) (hf : ∀ c ∈ cs, c.free = true) : RepV G w ℓ (.agg cs) (.agg vs)
  | tuple (ℓ : Loc) (cs : List AV) (vs : Array Value) (hs : vs.size = cs.length) (h : ∀ (i : Nat) (hi : i < cs.length), RepV G w .no cs[i] (vs.getD i Go.undef))
      (hc : ∀ c ∈ cs, c.isLocal = false) :
      RepV G w ℓ (.tuple cs) (.tuple vs)

/-- The value of a scalar. -/
def D.sval : D → Value
  | .int k n => .int k n
  | .bool b => .bool b
  | .str s => .string s
  | _ => Go.undef
def mkV (agg : Bool) (xs : List D) : Value :=
  if agg then .agg (xs.map D.sval).toArray else match xs with
  | x :: _ => x.sval
  | [] => Go.undef

/-- The entries of a map of the world. -/
inductive EntRep (K : Addr → Option Value) (agg : Bool) (ks : List CK) : List (D × D) → List MapEntry → Prop
  | nil : EntRep K agg ks [] []
  | cons {p : D × D} {m : MapEntry} {es : List (D × D)} {ms : List MapEntry} (hp : keyConf agg ks p.1 = true ∧ m.key = mkV agg p.1.cells ∧ RepD K p.2 m.val) (h : EntRep K agg ks es ms) : EntRep K agg ks (p :: es) (m :: ms)

theorem EntRep.mono {K K' : Addr → Option Value} (hK : KLe K K') {agg : Bool} {ks : List CK} {es : List (D × D)} {ms : List MapEntry} (h : EntRep K agg ks es ms) : EntRep K' agg ks es ms := by
  induction h with
  | nil => exact .nil
  | cons hp _ ih => exact .cons ⟨hp.1, hp.2.1, hp.2.2.mono hK⟩ ih

/-- What is owned by one of the locations S stays. -/
structure Pres (G G' : Gh) (w w' : World) (S : Loc → Prop) : Prop where
  K : KLe G.K G'.K
  O : ∀ (b : Nat) (ℓ : Loc) (f : Nat), S ℓ → G.O b = some (ℓ, f) → G'.O b = some (ℓ, f) ∧ w'.heap[b]? = w.heap[b]?
  β : ∀ a, a < G.nh → G'.β (.o a) = G.β (.o a)
  nh : G.nh ≤ G'.nh

theorem Tail.pres {G G' : Gh} {w w' : World} {S : Loc → Prop} {ℓ : Loc} (hp : Pres G G' w w' S) (hS : S ℓ) {k : Nat} {v : Value} (h : Tail G w ℓ k v) : Tail G' w' ℓ k v := by
  intro a n cap hv hn
  obtain ⟨f, c, e, h1, h2, h3, h4⟩ := h a n cap hv hn
  obtain ⟨h5, h6⟩ := hp.O _ _ _ hS h1
  exact ⟨f, c, e, h5, h2, h6.trans h3, h4⟩

/-- What the root 'no' owns: nothing. -/
structure Sane (G : Gh) : Prop where
  no : ∀ b ℓ f, G.O b = some (ℓ, f) → ℓ.root ≠ .no

theorem Pres.no {G G' : Gh} {w w' : World} {S : Loc → Prop} (hG : Sane G) (h : Pres G G' w w' S) : Pres G G' w w' (· = .no) :=
  ⟨h.K, fun b ℓ f hr hO => absurd (hr ▸ rfl) (hG.no b ℓ f hO), h.β, h.nh⟩

theorem AV.isLocal_of_isCell {c : AV} (h : c.isCell = true) : c.isLocal = false := by
  cases c <;> first | rfl | (simp [AV.isCell] at h)
theorem AV.not_place {c : AV} (h : c.isLocal = false) (r off : Nat) : c ≠ .place r off := by
  rintro rfl; simp [AV.isLocal] at h
theorem AV.not_box {c : AV} (h : c.isLocal = false) : c.isBox = false := by
  cases c <;> first | rfl | (simp [AV.isLocal] at h)

theorem RepV.pres {G G' : Gh} {w w' : World} (hG : Sane G) {ℓ : Loc} {av : AV} {v : Value} (h : RepV G w ℓ av v) :
    ∀ {S : Loc → Prop}, Pres G G' w w' S → S ℓ → (∀ r off, av = .place r off → G'.β (.s r) = G.β (.s r)) →
      (∀ t, ℓ = .s t → av.isBox = true → G'.β (.s t) = G.β (.s t) ∧ ∀ j, S (.sc t j)) → RepV G' w' ℓ av v := by
  induction h with
  | undef ℓ v => exact fun _ _ _ _ => .undef ℓ v
  | abool ℓ b => exact fun _ _ _ _ => .abool ℓ b
  | d ℓ x v h => exact fun hp _ _ _ => .d ℓ x v (h.mono hp.K)
  | ptr ℓ a off ha => intro S hp _ _ _; rw [← hp.β a ha]; exact .ptr ℓ a off (Nat.lt_of_lt_of_le ha hp.nh)
  | nilptr ℓ => exact fun _ _ _ _ => .nilptr ℓ
  | iptr ℓ cs b off vs hK h1 h => exact fun hp _ _ _ => .iptr ℓ cs b off vs (fun j hj => hp.K _ _ (hK j hj)) h1 (fun j hj => (h j hj).mono hp.K)
  | own ℓ k l v h ht => exact fun hp hS _ _ => .own ℓ k l v (h.mono hp.K) (ht.pres hp hS)
  | lim ℓ k l v h ht => exact fun hp _ _ _ => .lim ℓ k l v (h.mono hp.K) ht
  | func ℓ f as bs va vb ha hb _ _ hc hc' ih ih' =>
    intro S hp _ _ _
    exact .func ℓ f as bs va vb ha hb
      (fun i hi => ih i hi (hp.no hG) rfl (fun r off e => absurd e (AV.not_place (hc _ (List.getElem_mem hi)) r off)) (fun t e => by cases e))
      (fun i hi => ih' i hi (hp.no hG) rfl (fun r off e => absurd e (AV.not_place (hc' _ (List.getElem_mem hi)) r off)) (fun t e => by cases e)) hc hc'
  | nilfunc ℓ => exact fun _ _ _ _ => .nilfunc ℓ
  | yield ℓ l hl => intro S hp _ _ _; rw [← hp.β l hl]; exact .yield ℓ l (Nat.lt_of_lt_of_le hl hp.nh)
  | map ℓ a ha => intro S hp _ _ _; rw [← hp.β a ha]; exact .map ℓ a (Nat.lt_of_lt_of_le ha hp.nh)
  | nilmap ℓ => exact fun _ _ _ _ => .nilmap ℓ
  | lbox t cs vs e hO hw hs _ hc ih =>
    intro S hp hS _ hb
    obtain ⟨hβ, hSc⟩ := hb t rfl rfl
    obtain ⟨h1, h2⟩ := hp.O _ _ _ hS hO
    rw [← hβ] at h1 h2 hw ⊢
    refine .lbox t cs vs e h1 (h2.trans hw) hs (fun j hj => ih j hj hp (hSc j) ?_ (fun t e => by cases e)) hc
    exact fun r off e => absurd e (AV.not_place (AV.isLocal_of_isCell (hc _ (List.getElem_mem hj))) r off)
  | place ℓ r off => intro S _ _ hpl _; rw [← hpl r off rfl]; exact .place ℓ r off
  | mref ℓ a k lo n b off cap ha hlo hn hc hb => intro S hp _ _ _; exact .mref ℓ a k lo n b off cap (Nat.lt_of_lt_of_le ha hp.nh) hlo hn hc (fun h => by rw [hp.β a ha]; exact hb h)
  | eptr ℓ a k i j ha hi => intro S hp _ _ _; rw [← hp.β a ha]; exact .eptr ℓ a k i j (Nat.lt_of_lt_of_le ha hp.nh) hi
  | agg ℓ cs vs hs _ hc hf ih =>
    intro S hp _ _ _
    exact .agg ℓ cs vs hs (fun i hi => ih i hi (hp.no hG) rfl (fun r off e => absurd e (AV.not_place (AV.isLocal_of_isCell (hc _ (List.getElem_mem hi))) r off)) (fun t e => by cases e)) hc hf
  | tuple ℓ cs vs hs _ hc ih =>
    intro S hp _ _ _
    exact .tuple ℓ cs vs hs (fun i hi => ih i hi (hp.no hG) rfl (fun r off e => absurd e (AV.not_place (hc _ (List.getElem_mem hi)) r off)) (fun t e => by cases e)) hc

/-- An abstract object. -/
def RepObj (G : Gh) (w : World) (i : Nat) : Obj → Prop
  | .cells cs => ∃ vs e, G.O (G.β (.o i)) = some (.o i, 0) ∧ w.heap[G.β (.o i)]? = some (.cells vs e (0, 0)) ∧ vs.size = cs.length ∧
      (∀ (j : Nat) (hj : j < cs.length), RepV G w (.oc i j) cs[j] (vs.getD j Go.undef)) ∧ ∀ c ∈ cs, c.isCell = true
  | .arr k l => ∃ vs e, G.O (G.β (.o i)) = some (.o i, 0) ∧ w.heap[G.β (.o i)]? = some (.cells vs e (0, 0)) ∧ uniform k l ∧ (D.flat l).length ≤ vs.size ∧ (∀ j, j < (D.flat l).length → (vs.getD j Go.undef).oneCell' = true) ∧
      ∀ (j : Nat) (hj : j < (D.flat l).length), RepD G.K (D.flat l)[j] (vs.getD j Go.undef)
  | .map agg ks es => ∃ ms clock, G.O (G.β (.o i)) = some (.o i, 0) ∧ w.heap[G.β (.o i)]? = some (.map ms clock) ∧ EntRep G.K agg ks es ms.toList
  | .loop L => ∃ fn tmps D, G.O (G.β (.o i)) = some (.o i, 0) ∧ w.heap[G.β (.o i)]? = some (.loop { state := L.st, pending := L.pending, fn, tmps, params := L.params, assign := L.assign, body := L.body, defers := D }) ∧
      tmps.size = L.n ∧ (∀ t, RepV G w .no (eget L.env t) (tmps.getD t Go.undef)) ∧ ∀ t, (eget L.env t).free = true
  | .dead => True

theorem RepObj.pres {G G' : Gh} {w w' : World} (hG : Sane G) {i : Nat} {ob : Obj} (h : RepObj G w i ob) (hi : i < G.nh) {S : Loc → Prop} (hp : Pres G G' w w' S) (hS : S (.o i)) (hSc : ∀ j, S (.oc i j)) : RepObj G' w' i ob := by
  cases ob with
  | cells cs =>
    obtain ⟨vs, e, h1, h2, h3, h4, h5⟩ := h
    obtain ⟨h6, h7⟩ := hp.O _ _ _ hS h1
    have hβ := hp.β i hi
    rw [← hβ] at h2 h6 h7
    exact ⟨vs, e, h6, h7.trans h2, h3, fun j hj => (h4 j hj).pres hG hp (hSc j) (fun r off e => absurd e (AV.not_place (AV.isLocal_of_isCell (h5 _ (List.getElem_mem hj))) r off)) (fun t e => by cases e), h5⟩
  | arr k l =>
    obtain ⟨vs, e, h1, h2, h3, h4, h8, h5⟩ := h
    obtain ⟨h6, h7⟩ := hp.O _ _ _ hS h1
    have hβ := hp.β i hi
    rw [← hβ] at h2 h6 h7
    exact ⟨vs, e, h6, h7.trans h2, h3, h4, h8, fun j hj => (h5 j hj).mono hp.K⟩
  | map agg ks es =>
    obtain ⟨ms, clock, h1, h2, h3⟩ := h
    obtain ⟨h6, h7⟩ := hp.O _ _ _ hS h1
    have hβ := hp.β i hi
    rw [← hβ] at h2 h6 h7
    exact ⟨ms, clock, h6, h7.trans h2, h3.mono hp.K⟩
  | loop L =>
    obtain ⟨fn, tmps, D, h1, h2, h3, h4, h5⟩ := h
    obtain ⟨h6, h7⟩ := hp.O _ _ _ hS h1
    have hβ := hp.β i hi
    rw [← hβ] at h2 h6 h7
    refine ⟨fn, tmps, D, h6, h7.trans h2, h3, fun t => (h4 t).pres hG (hp.no hG) rfl (fun r off e => ?_) (fun t e => by cases e), h5⟩
    have := h5 t; rw [e] at this; simp [AV.free] at this
  | dead => trivial

/-- The abstract heap, and what is told of the ghosts. -/
structure RelH (G : Gh) (H : List Obj) (w : World) : Prop where
  sane : Sane G
  nh : H.length = G.nh
  objs : ∀ (i : Nat) (ob : Obj), H[i]? = some ob → RepObj G w i ob
  kept : ∀ x v, G.K x = some v → w.cell? x = some v
  disj : ∀ b ℓ f, G.O b = some (ℓ, f) → b < w.heap.size ∧ ∀ j, f ≤ j → G.K ⟨b, j, none⟩ = none

/-- The calls that wait in an activation are those that a range over a function leaves: blocks of none. -/
def RelF (G : Gh) (ds : List Deferred) (w : World) : Prop :=
  (ds.map fun d => match d.target with | .collected r => r | _ => 0).Nodup ∧
  ∀ d ∈ ds, ∃ r, d = { target := .collected r, args := #[] } ∧ G.O r = some (.df, 0) ∧ w.heap[r]? = some (.deferred (some []))

structure Rel (G : Gh) (σ : St) (a : Act) (w : World) : Prop where
  h : RelH G σ.heap w
  size : a.tmps.size = σ.n
  slots : ∀ t, RepV G w (.s t) (σ.get t) (a.tmps.getD t Go.undef)
  places : ∀ t r off, σ.get t = .place r off → ∃ cs, σ.get r = .lbox cs
  df : RelF G a.defers w

/-- What a step promises to all that it does not own; m: how many objects were handed in. -/
structure Ext (m : Nat) (G : Gh) (w : World) (G' : Gh) (w' : World) : Prop where
  K : KLe G.K G'.K
  new : ∀ x v, G'.K x = some v → G.K x = some v ∨ (∃ p, G.O x.block = some p) ∨ w.heap.size ≤ x.block
  others : ∀ b, b < w.heap.size → G.O b = none → w'.heap[b]? = w.heap[b]? ∧ G'.O b = none
  size : w.heap.size ≤ w'.heap.size
  β : ∀ i, i < m → G'.β (.o i) = G.β (.o i)
  io : w'.os = w.os ∧ w'.output = w.output ∧ ∀ a, w'.frozen? a = w.frozen? a

theorem Ext.refl (m : Nat) (G : Gh) (w : World) : Ext m G w G w := ⟨KLe.refl _, fun _ _ h => .inl h, fun _ _ h => ⟨rfl, h⟩, Nat.le_refl _, fun _ _ => rfl, rfl, rfl, fun _ => rfl⟩
theorem Ext.trans {m : Nat} {G₁ G₂ G₃ : Gh} {w₁ w₂ w₃ : World} (h : Ext m G₁ w₁ G₂ w₂) (h' : Ext m G₂ w₂ G₃ w₃) : Ext m G₁ w₁ G₃ w₃ where
  K := h.K.trans h'.K
  new x v e := by
    rcases h'.new x v e with e | ⟨p, e⟩ | e
    · exact h.new x v e
    · rcases Nat.lt_or_ge x.block w₁.heap.size with hb | hb
      · cases hO : G₁.O x.block with
        | none => rw [(h.others _ hb hO).2] at e; cases e
        | some q => exact .inr (.inl ⟨q, rfl⟩)
      · exact .inr (.inr hb)
    · exact .inr (.inr (Nat.le_trans h.size e))
  others b hb hO := by
    obtain ⟨h1, h2⟩ := h.others b hb hO
    obtain ⟨h3, h4⟩ := h'.others b (Nat.lt_of_lt_of_le hb h.size) h2
    exact ⟨h3.trans h1, h4⟩
  size := Nat.le_trans h.size h'.size
  β i hi := (h'.β i hi).trans (h.β i hi)
  io := ⟨h'.io.1.trans h.io.1, h'.io.2.1.trans h.io.2.1, fun a => (h'.io.2.2 a).trans (h.io.2.2 a)⟩
end Go.Am
