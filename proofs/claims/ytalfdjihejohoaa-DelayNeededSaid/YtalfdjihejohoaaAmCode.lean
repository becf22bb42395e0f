/- Code on abstract states: statements, loops, regions in the order of the text. -/
import Derived.Test.YtalfdjihejohoaaAmObj
import Derived.TacticsIn
import Derived.RangeFuncLeaves
set_option linter.unusedSimpArgs false
set_option linter.unusedSectionVars false
namespace Go.Am
open Go

theorem evBase_ok {P : Program} {T : Types} (hT : TOk P T) {σ : St} {g : Nat → AV} {o : Oper} {ss : Sets} {h' : Option (List Obj)} {H : List Obj} {an : Ann}
    (hg : Less g σ) (hgd : ∀ d, o.dst = some d → g d = σ.get d) (hH : ∀ (i : Nat) (ob : Obj), H[i]? = some ob → σ.heap[i]? = some ob) (hHe : heapy an g o = true → H = σ.heap)
    (h : evBase Ar.std T an σ.n g H o = some (ss, h')) : StepOk P σ o ss h' := by
  have h0 := h
  cases hop : o.op with
  | move x => exact step_move hg hgd h (.inl hop)
  | assign x => exact step_move hg hgd h (.inr hop)
  | pick c a b => exact step_pick hg hgd h hop
  | alloc t => exact step_alloc hT hg hgd hHe h hop
  | box t x => exact step_box hT hg hgd hHe h hop
  | build t ps => exact step_build hT hg hgd h hop
  | buildSlice t n ps => exact step_buildSlice hT hg hgd h hop
  | load t x => exact step_load hT hg hgd hH h hop hHe
  | store t x y => exact step_store hT hg hHe h hop
  | binOp op t x y t' => exact step_binOp hg hgd h hop
  | unOp op t x =>
    cases op with
    | not => exact step_unOp hg hgd h hop
    | _ => simp [evBase, hop] at h
  | convert s t x => exact step_convert hT hg hgd h hop
  | makeFunc fn a b =>
    cases fn with
    | func f => exact step_makeFunc hg hgd h hop
    | _ => simp [evBase, hop] at h
  | slice t x a b c => exact step_slice hT hg hgd h hop
  | fieldAddr t x f => exact step_fieldAddr hT hg hgd h hop
  | field t x f => exact step_field hT hg hgd h hop
  | indexAddr t x i => exact step_indexAddr hT hg hgd h hop
  | extract x i => exact step_extract hg hgd h hop
  | call c =>
    obtain ⟨callee, args, ts⟩ := c
    cases callee with
    | builtin b =>
      cases b with
      | len => exact step_len hT hg hgd h hop
      | append => exact step_append hT hg hgd h hop
      | _ => simp [evBase, hop] at h
    | _ => simp [evBase, hop] at h
  | _ => simp [evBase, hop] at h

theorem evCore_ok {P : Program} {T : Types} (hT : TOk P T) {σ : St} {g : Nat → AV} {o : Oper} {ss : Sets} {h' : Option (List Obj)} {H : List Obj} {an : Ann}
    (hg : Less g σ) (hgd : ∀ d, o.dst = some d → g d = σ.get d) (hH : ∀ (i : Nat) (ob : Obj), H[i]? = some ob → σ.heap[i]? = some ob) (hHe : heapy an g o = true → H = σ.heap)
    (h : evCore Ar.std T an σ.n g H o = some (ss, h')) : StepOk P σ o ss h' := by
  unfold evCore at h
  split at h
  · rename_i r hr
    subst h
    exact evObj_ok hT hg hgd hH hHe hr
  · exact evBase_ok hT hg hgd hH hHe h

/-- What an abstract state stands for behind a step. -/
def Post (m : Nat) (G : Gh) (w : World) (Q : Exit → St → Prop) : Exit → Act → World → Prop :=
  fun e a' w' => ∃ σ' G', Rel G' σ' a' w' ∧ Ext m G w G' w' ∧ m ≤ G'.nh ∧ Q e σ'

theorem Post.ext {m : Nat} {G G1 : Gh} {w w1 : World} {Q : Exit → St → Prop} (h : Ext m G w G1 w1) {e : Exit} {a : Act} {w' : World} (hp : Post m G1 w1 Q e a w') : Post m G w Q e a w' := by
  obtain ⟨σ', G', R, hE, hm, hq⟩ := hp
  exact ⟨σ', G', R, h.trans hE, hm, hq⟩

/-- Code does what Q says, from an abstract state. m: how many objects the function was handed. -/
def AWp (P : Program) (m : Nat) (c : Code) (Q : Exit → St → Prop) (σ : St) : Prop :=
  ∀ (r : Option Nat) (n : Nat) (G : Gh) (a : Act) (w : World), m ≤ G.nh → Rel G σ a w → c.wpIn (Wd r) n P (Post m G w Q) a w

/-- The same for code outside of a round. -/
def AWpT (P : Program) (m : Nat) (c : Code) (Q : Exit → St → Prop) (σ : St) : Prop :=
  ∀ (n : Nat) (G : Gh) (a : Act) (w : World), m ≤ G.nh → Rel G σ a w → c.wpIn (Wd none) n P (Post m G w Q) a w
theorem AWpT.of {P : Program} {m : Nat} {c : Code} {Q : Exit → St → Prop} {σ : St} (h : AWp P m c Q σ) : AWpT P m c Q σ := fun n G a w hm R => h none n G a w hm R

def AExit.then (K : St → Prop) (Q : Exit → St → Prop) : Exit → St → Prop
  | .normal, σ => K σ
  | e, σ => Q e σ
def AExit.block (id : Nat) (Q : Exit → St → Prop) : Exit → St → Prop
  | .exit j, σ => if j = id then Q .normal σ else Q (.exit j) σ
  | e, σ => Q e σ

section
variable {P : Program} {m : Nat} {Q : Exit → St → Prop} {σ : St}

theorem AWp.mono {c : Code} {Q' : Exit → St → Prop} (h : AWp P m c Q σ) (hq : ∀ e σ, Q e σ → Q' e σ) : AWp P m c Q' σ := by
  intro r n G a w hm R
  refine wpIn_mono (h r n G a w hm R) ?_
  rintro e a' w' ⟨σ', G', R', hE, hm', hQ⟩
  exact ⟨σ', G', R', hE, hm', hq _ _ hQ⟩
theorem AWp.skip (h : Q .normal σ) : AWp P m .skip Q σ := fun _ _ G _ _ hm R => wpIn_skip ⟨σ, G, R, Ext.refl _ _ _, hm, h⟩
theorem AWp.exit {id : Nat} (h : Q (.exit id) σ) : AWp P m (.exit id) Q σ := fun _ _ G _ _ hm R => wpIn_exit ⟨σ, G, R, Ext.refl _ _ _, hm, h⟩
theorem AWp.ret (h : Q .ret σ) : AWp P m .ret Q σ := fun _ _ G _ _ hm R => wpIn_ret ⟨σ, G, R, Ext.refl _ _ _, hm, h⟩
theorem AWp.seq {x y : Code} (h : AWp P m x (AExit.then (AWp P m y Q) Q) σ) : AWp P m (.seq x y) Q σ := by
  intro r n G a w hm R
  refine wpIn_seq (wpIn_mono (h r n G a w hm R) ?_)
  rintro e a' w' ⟨σ', G', R', hE, hm', hQ⟩
  cases e with
  | normal => exact wpIn_mono (hQ r n G' a' w' hm' R') (fun e a w hp => hp.ext hE)
  | _ => exact ⟨σ', G', R', hE, hm', hQ⟩
theorem AWpT.mono {c : Code} {Q' : Exit → St → Prop} (h : AWpT P m c Q σ) (hq : ∀ e σ, Q e σ → Q' e σ) : AWpT P m c Q' σ := by
  intro n G a w hm R
  refine wpIn_mono (h n G a w hm R) ?_
  rintro e a' w' ⟨σ', G', R', hE, hm', hQ⟩
  exact ⟨σ', G', R', hE, hm', hq _ _ hQ⟩
theorem AWpT.seq {x y : Code} (h : AWpT P m x (AExit.then (AWpT P m y Q) Q) σ) : AWpT P m (.seq x y) Q σ := by
  intro n G a w hm R
  refine wpIn_seq (wpIn_mono (h n G a w hm R) ?_)
  rintro e a' w' ⟨σ', G', R', hE, hm', hQ⟩
  cases e with
  | normal => exact wpIn_mono (hQ n G' a' w' hm' R') (fun e a w hp => hp.ext hE)
  | _ => exact ⟨σ', G', R', hE, hm', hQ⟩
theorem AWp.cond {c : Operand} {x y : Code} {b : Bool} (hc : (match c with | .tmp t => σ.get t | .const (.bool b) => .d (.bool b) | _ => .undef) = .d (.bool b)) (h : AWp P m (if b then x else y) Q σ) : AWp P m (.cond c x y) Q σ := by
  intro r n G a w hm R
  refine wpIn_cond (t := b) ?_ (h r n G a w hm R)
  split at hc
  · rename_i t
    have := R.slots t
    rw [hc] at this
    show a.tmps.getD t Go.undef = _
    generalize a.tmps.getD t Go.undef = v at this
    cases this with | d _ _ _ h => cases h; rfl
  · rename_i b'
    simp at hc; subst hc; rfl
  · cases hc
/-- A condition of which nothing is known. -/
theorem AWp.condAny {c : Operand} {x y : Code} (hc : (match c with | .tmp t => σ.get t | _ => .undef) = .abool) (h1 : AWp P m x Q σ) (h2 : AWp P m y Q σ) : AWp P m (.cond c x y) Q σ := by
  intro r n G a w hm R
  cases c with
  | tmp t =>
    simp only at hc
    have := R.slots t
    rw [hc] at this
    generalize hv : a.tmps.getD t Go.undef = v at this
    cases this with | abool _ b =>
    have hv' : a.eval (.tmp t) = .bool b := hv
    cases b with
    | true => exact wpIn_cond (t := true) hv' (h1 r n G a w hm R)
    | false => exact wpIn_cond (t := false) hv' (h2 r n G a w hm R)
  | _ => cases hc
theorem AWp.block {id : Nat} {c : Code} (h : AWp P m c (AExit.block id Q) σ) : AWp P m (.block id c) Q σ := by
  intro r n G a w hm R
  refine wpIn_block (wpIn_mono (h r n G a w hm R) ?_)
  rintro e a' w' ⟨σ', G', R', hE, hm', hQ⟩
  cases e with
  | exit j =>
    simp only [AExit.block] at hQ
    simp only [Exit.inBlock]
    split at hQ
    · rename_i hj; rw [if_pos hj]; exact ⟨σ', G', R', hE, hm', hQ⟩
    · rename_i hj; rw [if_neg hj]; exact ⟨σ', G', R', hE, hm', hQ⟩
  | _ => exact ⟨σ', G', R', hE, hm', hQ⟩

theorem AWpT.cond {c : Operand} {x y : Code} {b : Bool} (hc : (match c with | .tmp t => σ.get t | .const (.bool b) => .d (.bool b) | _ => .undef) = .d (.bool b)) (h : AWpT P m (if b then x else y) Q σ) : AWpT P m (.cond c x y) Q σ := by
  intro n G a w hm R
  refine wpIn_cond (t := b) ?_ (h n G a w hm R)
  split at hc
  · rename_i t
    have := R.slots t
    rw [hc] at this
    show a.tmps.getD t Go.undef = _
    generalize a.tmps.getD t Go.undef = v at this
    cases this with | d _ _ _ h => cases h; rfl
  · rename_i b'
    simp at hc; subst hc; rfl
  · cases hc
theorem AWpT.block {id : Nat} {c : Code} (h : AWpT P m c (AExit.block id Q) σ) : AWpT P m (.block id c) Q σ := by
  intro n G a w hm R
  refine wpIn_block (wpIn_mono (h n G a w hm R) ?_)
  rintro e a' w' ⟨σ', G', R', hE, hm', hQ⟩
  cases e with
  | exit j =>
    simp only [AExit.block] at hQ
    simp only [Exit.inBlock]
    split at hQ
    · rename_i hj; rw [if_pos hj]; exact ⟨σ', G', R', hE, hm', hQ⟩
    · rename_i hj; rw [if_neg hj]; exact ⟨σ', G', R', hE, hm', hQ⟩
  | _ => exact ⟨σ', G', R', hE, hm', hQ⟩

/-- A loop: states by an index that a measure lowers. -/
theorem AWp.loop {ι : Type} {c : Code} (μ : ι → Nat) (S : ι → St) (i0 : ι) (h : ∀ i, AWp P m c (AExit.then (fun σ' => ∃ j, μ j < μ i ∧ σ' = S j) Q) (S i)) : AWp P m (.loop c) Q (S i0) := by
  intro r n G a w hm R b k cs hro hb hr
  have key : ∀ (q : Nat) (i : ι), μ i = q → ∀ (G1 : Gh) (a : Act) (w1 : World), m ≤ G1.nh → Rel G1 (S i) a w1 → Ext m G w G1 w1 →
      ∃ e a' w', Post m G w Q e a' w' ∧ ArrivesIn (Machine.fenced P (Wd r)) P (lone (b.atR a (.code c :: .inLoop c :: k)) cs w1) b k cs e a' w' := by
    intro q
    induction q using Nat.strongRecOn with
    | _ q ih =>
      intro i hi G1 a w1 hm1 R1 hE1
      obtain ⟨e, a₁, w₁, hq, harr⟩ := h i r n G1 a w1 hm1 R1 b (.inLoop c :: k) cs hro hb hr
      obtain ⟨σ', G', R', hE, hm', hQ⟩ := hq
      cases e with
      | normal =>
        obtain ⟨j, hlt, rfl⟩ := hQ
        obtain ⟨e₂, a₂, w₂, hq₂, harr₂⟩ := ih (μ j) (hi ▸ hlt) j rfl G' a₁ w₁ hm' R' (hE1.trans hE)
        exact ⟨e₂, a₂, w₂, hq₂, .of_steps (StepsIn.trans harr (.one (fenced_calm hb hr rfl) stepR_inLoop)) harr₂⟩
      | exit id => exact ⟨_, a₁, w₁, ⟨σ', G', R', hE1.trans hE, hm', hQ⟩, .pass (x := .inLoop c) rfl (fun _ _ => .inl (by simp)) harr⟩
      | goto l => exact ⟨_, a₁, w₁, ⟨σ', G', R', hE1.trans hE, hm', hQ⟩, .pass (x := .inLoop c) rfl (fun _ _ => .inl (by simp)) harr⟩
      | ret => exact ⟨_, a₁, w₁, ⟨σ', G', R', hE1.trans hE, hm', hQ⟩, .pass (x := .inLoop c) rfl (fun _ _ => .inl (by simp)) harr⟩
      | panic ch => exact ⟨_, a₁, w₁, ⟨σ', G', R', hE1.trans hE, hm', hQ⟩, .pass (x := .inLoop c) rfl (fun _ _ => .inl (by simp)) harr⟩
      | outgrown => exact ⟨_, a₁, w₁, ⟨σ', G', R', hE1.trans hE, hm', hQ⟩, .pass (x := .inLoop c) rfl (fun _ _ => .inl (by simp)) harr⟩
  obtain ⟨e, a', w', hq, harr⟩ := key _ i0 rfl G a w hm R (Ext.refl _ _ _)
  exact ⟨e, a', w', hq, .of_steps (.one (fenced_calm hb hr rfl) stepR_loop) harr⟩
end

/-! ### Regions in the order of the text -/
/-- Whether an operation's guard lets it be carried out. -/
def wantA (ops : List Oper) (σ : St) (o : Oper) : Option Bool :=
  match o.guard with
  | none => some true
  | some (j, b) =>
    match (ops[j]?).bind (·.dst) with
    | none => some false
    | some d =>
      match σ.get d with
      | .d (.bool x) => some (x == b)
      | .tuple [] => some false
      | _ => none

theorem wantA_ok {ops : Array Oper} {σ : St} {o : Oper} {b : Bool} (h : wantA ops.toList σ o = some b) {G : Gh} {a : Act} {w : World} (R : Rel G σ a w) : Region.wanted o (yielded ops a.tmps) = b := by
  unfold wantA at h
  unfold Region.wanted
  cases hgu : o.guard with
  | none => simp [hgu] at h; simp [h]
  | some p =>
    obtain ⟨j, b'⟩ := p
    simp only [hgu] at h
    simp only [yielded]
    cases hd : (ops[j]?).bind (·.dst) with
    | none =>
      have hd' : (ops.toList[j]?).bind (·.dst) = none := by simpa using hd
      simp only [hd'] at h
      simp at h; subst h
      simp
    | some d =>
      have hd' : (ops.toList[j]?).bind (·.dst) = some d := by simpa using hd
      simp only [hd'] at h
      have hrep := R.slots d
      simp only [Option.bind_some]
      split at h
      · rename_i x hx
        rw [hx] at hrep
        simp at h
        generalize hv : a.tmps.getD d Go.undef = v at hrep
        cases hrep with | d _ _ _ hr =>
        cases hr
        have : a.tmps[d]? = some (.bool x) := by
          rw [Array.getD_eq_getD_getElem?] at hv
          cases he : a.tmps[d]? with
          | none => rw [he] at hv; simp [Go.undef] at hv
          | some y => rw [he] at hv; simpa using hv
        simp only [this]
        rw [← h]; cases x <;> cases b' <;> rfl
      · rename_i hx
        rw [hx] at hrep
        simp at h; subst h
        generalize hv : a.tmps.getD d Go.undef = v at hrep
        cases hrep with | tuple _ _ vs hs _ _ =>
        have : ∀ x, a.tmps[d]? ≠ some (.bool x) := by
          intro x he
          rw [Array.getD_eq_getD_getElem?, he] at hv
          simp at hv
        split
        · rename_i x he; exact absurd he (this x)
        · simp
      · simp at h

/-- A list of operations does what Q says. -/
def AOps (P : Program) (m : Nat) (ops : Array Oper) (l : List Oper) (Q : Exit → St → Prop) (σ : St) : Prop :=
  ∀ (r : Option Nat) (n : Nat) (G : Gh) (a : Act) (w : World) (Q' : Exit → Act → World → Prop), m ≤ G.nh → Rel G σ a w → (∀ e a' w', Post m G w Q e a' w' → Q' e a' w') → wpListIn (Wd r) n P ops Q' l a w

section
variable {P : Program} {m : Nat} {Q : Exit → St → Prop} {σ : St} {ops : Array Oper} {o : Oper} {l : List Oper}
theorem AOps.nil (h : Q .normal σ) : AOps P m ops [] Q σ := fun _ _ G a w _ hm R hQ => hQ _ a w ⟨σ, G, R, Ext.refl _ _ _, hm, h⟩
theorem AOps.step {ss : Sets} {h' : Option (List Obj)} (hw : wantA ops.toList σ o = some true) (hs : StepOk P σ o ss h') (hlen : m ≤ (σ.upd ss h').heap.length) (h : AOps P m ops l Q (σ.upd ss h')) : AOps P m ops (o :: l) Q σ := by
  intro r n G a w Q' hm R hQ
  unfold wpListIn
  rw [if_pos (wantA_ok hw R)]
  refine hs r n m G a w Q' _ hm R fun G' a' w' R' hE => ?_
  exact h r n G' a' w' Q' (by rw [← R'.h.nh]; exact hlen) R' (fun e a'' w'' hp => hQ _ _ _ (hp.ext hE))
theorem AOps.skip {d : Nat} (hw : wantA ops.toList σ o = some false) (hd : o.dst = some d) (hlt : d < σ.n) (hb : (σ.get d).isBox = false) (h : AOps P m ops l Q (σ.upd [(d, .tuple [])] none)) : AOps P m ops (o :: l) Q σ := by
  intro r n G a w Q' hm R hQ
  unfold wpListIn
  rw [wantA_ok hw R, if_neg (by simp)]
  refine ⟨fun _ _ => trivial, ?_⟩
  rw [hd]
  exact h r n G _ w Q' hm (R.put (.tuple _ _ #[] rfl (fun i hi => by simp at hi) (fun c hc => by simp at hc)) (fun r off e => by cases e) hb hlt) hQ
theorem AOps.skip0 (hw : wantA ops.toList σ o = some false) (hd : o.dst = none) (h : AOps P m ops l Q σ) : AOps P m ops (o :: l) Q σ := by
  intro r n G a w Q' hm R hQ
  unfold wpListIn
  rw [wantA_ok hw R, if_neg (by simp)]
  refine ⟨fun _ _ => trivial, ?_⟩
  rw [hd]
  exact h r n G _ w Q' hm R hQ
theorem AWp.region {id : Nat} (h : AOps P m ops ops.toList Q σ) : AWp P m (.region id ops false) Q σ :=
  fun r n G a w hm R => wpIn_region_list (h r n G a w _ hm R (fun _ _ _ hp => hp))
end

theorem evBase_len {A : Ar} {T : Types} {an : Ann} {n : Nat} {g : Nat → AV} {H H' : List Obj} {o : Oper} {ss : Sets} (h : evBase A T an n g H o = some (ss, some H')) : H.length ≤ H'.length := by
  have hput : ∀ {dst : Option Tmp} {v : AV}, Am.put n g dst v ≠ some (ss, some H') := by
    intro dst v e; have := (put_some e).1; cases this
  have hputO : ∀ {dst : Option Tmp} {v : Option AV}, putO n g dst v ≠ some (ss, some H') := by
    intro dst v e; obtain ⟨x, _, e⟩ := putO_some e; exact hput e
  have hmap : ∀ {dst : Option Tmp} {v : AV} {q : Sets × Option (List Obj) → Sets}, Option.map (fun p => (q p, p.2)) (Am.put n g dst v) ≠ some (ss, some H') := by
    intro dst v q e
    simp only [Option.map_eq_some_iff] at e
    obtain ⟨⟨s1, h1⟩, e1, e2⟩ := e
    have := (put_some e1).1
    simp at e2; rw [this] at e2; exact absurd e2.2 (by simp)
  have hmap2 : ∀ {dst : Option Tmp} {v : AV} {q : Sets × Option (List Obj) → Sets} {H1 : List Obj}, H1.length = H.length → Option.map (fun p => (q p, some H1)) (Am.put n g dst v) = some (ss, some H') → H.length ≤ H'.length := by
    intro dst v q H1 hl e
    simp only [Option.map_eq_some_iff] at e
    obtain ⟨⟨s1, h1⟩, e1, e2⟩ := e
    simp at e2; rw [← e2.2, hl]; exact Nat.le_refl _
  cases hop : o.op <;> simp only [evBase, hop] at h
  all_goals (repeat' split at h)
  all_goals first
    | (cases h; done)
    | (exact absurd h hput)
    | (exact absurd h hputO)
    | (exact absurd h hmap)
    | (exact hmap2 (by simp) h)
    | (simp at h; done)
    | (simp at h; rw [← h.2]; simp; done)
    | (simp at h; obtain ⟨_, _, _, rfl⟩ := h; simp; done)
theorem evCore_len {A : Ar} {T : Types} {an : Ann} {n : Nat} {g : Nat → AV} {H H' : List Obj} {o : Oper} {ss : Sets} (h : evCore A T an n g H o = some (ss, some H')) : H.length ≤ H'.length := by
  unfold evCore at h
  split at h
  · rename_i r hr
    subst h
    exact evObj_len hr
  · exact evBase_len h
end Go.Am
