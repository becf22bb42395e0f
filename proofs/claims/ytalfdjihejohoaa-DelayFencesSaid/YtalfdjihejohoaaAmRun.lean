/- Own text: AmCode, AmCall, AmRun. -/
import Derived.Test.YtalfdjihejohoaaAmObj
import Derived.TacticsIn
import Derived.RangeFuncLeaves
/- Code on abstract states: statements, loops, regions in the order of the text. -/
set_option linter.unusedSimpArgs false
set_option linter.unusedSectionVars false
namespace Go.Am
open Go

theorem evBase_ok {P : Program} {T : Types} (hT : TOk P T) {σ : St} {g : Nat → AV} {o : Oper} {ss : Sets} {h' : Option (List Obj)} {H : List Obj} {an : Ann}
    (hg : Less g σ) (hgd : ∀ d, o.dst = some d → g d = σ.get d) (hH : ∀ (i : Nat) (ob : Obj), H[i]? = some ob → σ.heap[i]? = some ob) (hHe : heapy an g o = true → H = σ.heap)
    (h : evBase Ar.std T an σ.n g H o = some (ss, h')) : StepOk P σ o ss h' := by
  have h0 := h
  cases hop : o.op with
  | move x => exact step_move hg hgd h (.inl hop)
  | assign x => exact step_move hg hgd h (.inr hop)
  | pick c a b => exact step_pick hg hgd h hop
  | alloc t => exact step_alloc hT hg hgd hHe h hop
  | box t x => exact step_box hT hg hgd hHe h hop
  | build t ps => exact step_build hT hg hgd h hop
  | buildSlice t n ps => exact step_buildSlice hT hg hgd h hop
  | load t x => exact step_load hT hg hgd hH h hop hHe
  | store t x y => exact step_store hT hg hHe h hop
  | binOp op t x y t' => exact step_binOp hg hgd h hop
  | unOp op t x =>
    cases op with
    | not => exact step_unOp hg hgd h hop
    | _ => simp [evBase, hop] at h
  | convert s t x => exact step_convert hT hg hgd h hop
  | makeFunc fn a b =>
    cases fn with
    | func f => exact step_makeFunc hg hgd h hop
    | _ => simp [evBase, hop] at h
  | slice t x a b c => exact step_slice hT hg hgd h hop
  | fieldAddr t x f => exact step_fieldAddr hT hg hgd h hop
  | field t x f => exact step_field hT hg hgd h hop
  | indexAddr t x i => exact step_indexAddr hT hg hgd h hop
  | extract x i => exact step_extract hg hgd h hop
  | call c =>
    obtain ⟨callee, args, ts⟩ := c
    cases callee with
    | builtin b =>
      cases b with
      | len => exact step_len hT hg hgd h hop
      | append => exact step_append hT hg hgd h hop
      | _ => simp [evBase, hop] at h
    | _ => simp [evBase, hop] at h
  | _ => simp [evBase, hop] at h

theorem evCore_ok {P : Program} {T : Types} (hT : TOk P T) {σ : St} {g : Nat → AV} {o : Oper} {ss : Sets} {h' : Option (List Obj)} {H : List Obj} {an : Ann}
    (hg : Less g σ) (hgd : ∀ d, o.dst = some d → g d = σ.get d) (hH : ∀ (i : Nat) (ob : Obj), H[i]? = some ob → σ.heap[i]? = some ob) (hHe : heapy an g o = true → H = σ.heap)
    (h : evCore Ar.std T an σ.n g H o = some (ss, h')) : StepOk P σ o ss h' := by
  unfold evCore at h
  split at h
  · rename_i r hr
    subst h
    exact evObj_ok hT hg hgd hH hHe hr
  · exact evBase_ok hT hg hgd hH hHe h

/-- What an abstract state stands for behind a step. -/
def Post (m : Nat) (G : Gh) (w : World) (Q : Exit → St → Prop) : Exit → Act → World → Prop :=
  fun e a' w' => ∃ σ' G', Rel G' σ' a' w' ∧ Ext m G w G' w' ∧ m ≤ G'.nh ∧ Q e σ'

theorem Post.ext {m : Nat} {G G1 : Gh} {w w1 : World} {Q : Exit → St → Prop} (h : Ext m G w G1 w1) {e : Exit} {a : Act} {w' : World} (hp : Post m G1 w1 Q e a w') : Post m G w Q e a w' := by
  obtain ⟨σ', G', R, hE, hm, hq⟩ := hp
  exact ⟨σ', G', R, h.trans hE, hm, hq⟩

/-- Code does what Q says, from an abstract state. m: how many objects the function was handed. -/
def AWp (P : Program) (m : Nat) (c : Code) (Q : Exit → St → Prop) (σ : St) : Prop :=
  ∀ (r : Option Nat) (n : Nat) (G : Gh) (a : Act) (w : World), m ≤ G.nh → Rel G σ a w → c.wpIn (Wd r) n P (Post m G w Q) a w

/-- The same for code outside of a round. -/
def AWpT (P : Program) (m : Nat) (c : Code) (Q : Exit → St → Prop) (σ : St) : Prop :=
  ∀ (n : Nat) (G : Gh) (a : Act) (w : World), m ≤ G.nh → Rel G σ a w → c.wpIn (Wd none) n P (Post m G w Q) a w
theorem AWpT.of {P : Program} {m : Nat} {c : Code} {Q : Exit → St → Prop} {σ : St} (h : AWp P m c Q σ) : AWpT P m c Q σ := fun n G a w hm R => h none n G a w hm R

def AExit.then (K : St → Prop) (Q : Exit → St → Prop) : Exit → St → Prop
  | .normal, σ => K σ
  | e, σ => Q e σ
def AExit.block (id : Nat) (Q : Exit → St → Prop) : Exit → St → Prop
  | .exit j, σ => if j = id then Q .normal σ else Q (.exit j) σ
  | e, σ => Q e σ

section
variable {P : Program} {m : Nat} {Q : Exit → St → Prop} {σ : St}

theorem AWp.mono {c : Code} {Q' : Exit → St → Prop} (h : AWp P m c Q σ) (hq : ∀ e σ, Q e σ → Q' e σ) : AWp P m c Q' σ := by
  intro r n G a w hm R
  refine wpIn_mono (h r n G a w hm R) ?_
  rintro e a' w' ⟨σ', G', R', hE, hm', hQ⟩
  exact ⟨σ', G', R', hE, hm', hq _ _ hQ⟩
theorem AWp.skip (h : Q .normal σ) : AWp P m .skip Q σ := fun _ _ G _ _ hm R => wpIn_skip ⟨σ, G, R, Ext.refl _ _ _, hm, h⟩
theorem AWp.exit {id : Nat} (h : Q (.exit id) σ) : AWp P m (.exit id) Q σ := fun _ _ G _ _ hm R => wpIn_exit ⟨σ, G, R, Ext.refl _ _ _, hm, h⟩
theorem AWp.ret (h : Q .ret σ) : AWp P m .ret Q σ := fun _ _ G _ _ hm R => wpIn_ret ⟨σ, G, R, Ext.refl _ _ _, hm, h⟩
theorem AWp.seq {x y : Code} (h : AWp P m x (AExit.then (AWp P m y Q) Q) σ) : AWp P m (.seq x y) Q σ := by
  intro r n G a w hm R
  refine wpIn_seq (wpIn_mono (h r n G a w hm R) ?_)
  rintro e a' w' ⟨σ', G', R', hE, hm', hQ⟩
  cases e with
  | normal => exact wpIn_mono (hQ r n G' a' w' hm' R') (fun e a w hp => hp.ext hE)
  | _ => exact ⟨σ', G', R', hE, hm', hQ⟩
theorem AWpT.mono {c : Code} {Q' : Exit → St → Prop} (h : AWpT P m c Q σ) (hq : ∀ e σ, Q e σ → Q' e σ) : AWpT P m c Q' σ := by
  intro n G a w hm R
  refine wpIn_mono (h n G a w hm R) ?_
  rintro e a' w' ⟨σ', G', R', hE, hm', hQ⟩
  exact ⟨σ', G', R', hE, hm', hq _ _ hQ⟩
theorem AWpT.seq {x y : Code} (h : AWpT P m x (AExit.then (AWpT P m y Q) Q) σ) : AWpT P m (.seq x y) Q σ := by
  intro n G a w hm R
  refine wpIn_seq (wpIn_mono (h n G a w hm R) ?_)
  rintro e a' w' ⟨σ', G', R', hE, hm', hQ⟩
  cases e with
  | normal => exact wpIn_mono (hQ n G' a' w' hm' R') (fun e a w hp => hp.ext hE)
  | _ => exact ⟨σ', G', R', hE, hm', hQ⟩
theorem AWp.cond {c : Operand} {x y : Code} {b : Bool} (hc : (match c with | .tmp t => σ.get t | .const (.bool b) => .d (.bool b) | _ => .undef) = .d (.bool b)) (h : AWp P m (if b then x else y) Q σ) : AWp P m (.cond c x y) Q σ := by
  intro r n G a w hm R
  refine wpIn_cond (t := b) ?_ (h r n G a w hm R)
  split at hc
  · rename_i t
    have := R.slots t
    rw [hc] at this
    show a.tmps.getD t Go.undef = _
    generalize a.tmps.getD t Go.undef = v at this
    cases this with | d _ _ _ h => cases h; rfl
  · rename_i b'
    simp at hc; subst hc; rfl
  · cases hc
/-- A condition of which nothing is known. -/
theorem AWp.condAny {c : Operand} {x y : Code} (hc : (match c with | .tmp t => σ.get t | _ => .undef) = .abool) (h1 : AWp P m x Q σ) (h2 : AWp P m y Q σ) : AWp P m (.cond c x y) Q σ := by
  intro r n G a w hm R
  cases c with
  | tmp t =>
    simp only at hc
    have := R.slots t
    rw [hc] at this
    generalize hv : a.tmps.getD t Go.undef = v at this
    cases this with | abool _ b =>
    have hv' : a.eval (.tmp t) = .bool b := hv
    cases b with
    | true => exact wpIn_cond (t := true) hv' (h1 r n G a w hm R)
    | false => exact wpIn_cond (t := false) hv' (h2 r n G a w hm R)
  | _ => cases hc
theorem AWp.block {id : Nat} {c : Code} (h : AWp P m c (AExit.block id Q) σ) : AWp P m (.block id c) Q σ := by
  intro r n G a w hm R
  refine wpIn_block (wpIn_mono (h r n G a w hm R) ?_)
  rintro e a' w' ⟨σ', G', R', hE, hm', hQ⟩
  cases e with
  | exit j =>
    simp only [AExit.block] at hQ
    simp only [Exit.inBlock]
    split at hQ
    · rename_i hj; rw [if_pos hj]; exact ⟨σ', G', R', hE, hm', hQ⟩
    · rename_i hj; rw [if_neg hj]; exact ⟨σ', G', R', hE, hm', hQ⟩
  | _ => exact ⟨σ', G', R', hE, hm', hQ⟩

theorem AWpT.cond {c : Operand} {x y : Code} {b : Bool} (hc : (match c with | .tmp t => σ.get t | .const (.bool b) => .d (.bool b) | _ => .undef) = .d (.bool b)) (h : AWpT P m (if b then x else y) Q σ) : AWpT P m (.cond c x y) Q σ := by
  intro n G a w hm R
  refine wpIn_cond (t := b) ?_ (h n G a w hm R)
  split at hc
  · rename_i t
    have := R.slots t
    rw [hc] at this
    show a.tmps.getD t Go.undef = _
    generalize a.tmps.getD t Go.undef = v at this
    cases this with | d _ _ _ h => cases h; rfl
  · rename_i b'
    simp at hc; subst hc; rfl
  · cases hc
theorem AWpT.block {id : Nat} {c : Code} (h : AWpT P m c (AExit.block id Q) σ) : AWpT P m (.block id c) Q σ := by
  intro n G a w hm R
  refine wpIn_block (wpIn_mono (h n G a w hm R) ?_)
  rintro e a' w' ⟨σ', G', R', hE, hm', hQ⟩
  cases e with
  | exit j =>
    simp only [AExit.block] at hQ
    simp only [Exit.inBlock]
    split at hQ
    · rename_i hj; rw [if_pos hj]; exact ⟨σ', G', R', hE, hm', hQ⟩
    · rename_i hj; rw [if_neg hj]; exact ⟨σ', G', R', hE, hm', hQ⟩
  | _ => exact ⟨σ', G', R', hE, hm', hQ⟩

/-- A loop: states by an index that a measure lowers. -/
theorem AWp.loop {ι : Type} {c : Code} (μ : ι → Nat) (S : ι → St) (i0 : ι) (h : ∀ i, AWp P m c (AExit.then (fun σ' => ∃ j, μ j < μ i ∧ σ' = S j) Q) (S i)) : AWp P m (.loop c) Q (S i0) := by
  intro r n G a w hm R b k cs hro hb hr
  have key : ∀ (q : Nat) (i : ι), μ i = q → ∀ (G1 : Gh) (a : Act) (w1 : World), m ≤ G1.nh → Rel G1 (S i) a w1 → Ext m G w G1 w1 →
      ∃ e a' w', Post m G w Q e a' w' ∧ ArrivesIn (Machine.fenced P (Wd r)) P (lone (b.atR a (.code c :: .inLoop c :: k)) cs w1) b k cs e a' w' := by
    intro q
    induction q using Nat.strongRecOn with
    | _ q ih =>
      intro i hi G1 a w1 hm1 R1 hE1
      obtain ⟨e, a₁, w₁, hq, harr⟩ := h i r n G1 a w1 hm1 R1 b (.inLoop c :: k) cs hro hb hr
      obtain ⟨σ', G', R', hE, hm', hQ⟩ := hq
      cases e with
      | normal =>
        obtain ⟨j, hlt, rfl⟩ := hQ
        obtain ⟨e₂, a₂, w₂, hq₂, harr₂⟩ := ih (μ j) (hi ▸ hlt) j rfl G' a₁ w₁ hm' R' (hE1.trans hE)
        exact ⟨e₂, a₂, w₂, hq₂, .of_steps (StepsIn.trans harr (.one (fenced_calm hb hr rfl) stepR_inLoop)) harr₂⟩
      | exit id => exact ⟨_, a₁, w₁, ⟨σ', G', R', hE1.trans hE, hm', hQ⟩, .pass (x := .inLoop c) rfl (fun _ _ => .inl (by simp)) harr⟩
      | goto l => exact ⟨_, a₁, w₁, ⟨σ', G', R', hE1.trans hE, hm', hQ⟩, .pass (x := .inLoop c) rfl (fun _ _ => .inl (by simp)) harr⟩
      | ret => exact ⟨_, a₁, w₁, ⟨σ', G', R', hE1.trans hE, hm', hQ⟩, .pass (x := .inLoop c) rfl (fun _ _ => .inl (by simp)) harr⟩
      | panic ch => exact ⟨_, a₁, w₁, ⟨σ', G', R', hE1.trans hE, hm', hQ⟩, .pass (x := .inLoop c) rfl (fun _ _ => .inl (by simp)) harr⟩
      | outgrown => exact ⟨_, a₁, w₁, ⟨σ', G', R', hE1.trans hE, hm', hQ⟩, .pass (x := .inLoop c) rfl (fun _ _ => .inl (by simp)) harr⟩
  obtain ⟨e, a', w', hq, harr⟩ := key _ i0 rfl G a w hm R (Ext.refl _ _ _)
  exact ⟨e, a', w', hq, .of_steps (.one (fenced_calm hb hr rfl) stepR_loop) harr⟩
end

/-! ### Regions in the order of the text -/
/-- Whether an operation's guard lets it be carried out. -/
def wantA (ops : List Oper) (σ : St) (o : Oper) : Option Bool :=
  match o.guard with
  | none => some true
  | some (j, b) =>
    match (ops[j]?).bind (·.dst) with
    | none => some false
    | some d =>
      match σ.get d with
      | .d (.bool x) => some (x == b)
      | .tuple [] => some false
      | _ => none

theorem wantA_ok {ops : Array Oper} {σ : St} {o : Oper} {b : Bool} (h : wantA ops.toList σ o = some b) {G : Gh} {a : Act} {w : World} (R : Rel G σ a w) : Region.wanted o (yielded ops a.tmps) = b := by
  unfold wantA at h
  unfold Region.wanted
  cases hgu : o.guard with
  | none => simp [hgu] at h; simp [h]
  | some p =>
    obtain ⟨j, b'⟩ := p
    simp only [hgu] at h
    simp only [yielded]
    cases hd : (ops[j]?).bind (·.dst) with
    | none =>
      have hd' : (ops.toList[j]?).bind (·.dst) = none := by simpa using hd
      simp only [hd'] at h
      simp at h; subst h
      simp
    | some d =>
      have hd' : (ops.toList[j]?).bind (·.dst) = some d := by simpa using hd
      simp only [hd'] at h
      have hrep := R.slots d
      simp only [Option.bind_some]
      split at h
      · rename_i x hx
        rw [hx] at hrep
        simp at h
        generalize hv : a.tmps.getD d Go.undef = v at hrep
        cases hrep with | d _ _ _ hr =>
        cases hr
        have : a.tmps[d]? = some (.bool x) := by
          rw [Array.getD_eq_getD_getElem?] at hv
          cases he : a.tmps[d]? with
          | none => rw [he] at hv; simp [Go.undef] at hv
          | some y => rw [he] at hv; simpa using hv
        simp only [this]
        rw [← h]; cases x <;> cases b' <;> rfl
      · rename_i hx
        rw [hx] at hrep
        simp at h; subst h
        generalize hv : a.tmps.getD d Go.undef = v at hrep
        cases hrep with | tuple _ _ vs hs _ _ =>
        have : ∀ x, a.tmps[d]? ≠ some (.bool x) := by
          intro x he
          rw [Array.getD_eq_getD_getElem?, he] at hv
          simp at hv
        split
        · rename_i x he; exact absurd he (this x)
        · simp
      · simp at h

/-- A list of operations does what Q says. -/
def AOps (P : Program) (m : Nat) (ops : Array Oper) (l : List Oper) (Q : Exit → St → Prop) (σ : St) : Prop :=
  ∀ (r : Option Nat) (n : Nat) (G : Gh) (a : Act) (w : World) (Q' : Exit → Act → World → Prop), m ≤ G.nh → Rel G σ a w → (∀ e a' w', Post m G w Q e a' w' → Q' e a' w') → wpListIn (Wd r) n P ops Q' l a w

section
variable {P : Program} {m : Nat} {Q : Exit → St → Prop} {σ : St} {ops : Array Oper} {o : Oper} {l : List Oper}
theorem AOps.nil (h : Q .normal σ) : AOps P m ops [] Q σ := fun _ _ G a w _ hm R hQ => hQ _ a w ⟨σ, G, R, Ext.refl _ _ _, hm, h⟩
theorem AOps.step {ss : Sets} {h' : Option (List Obj)} (hw : wantA ops.toList σ o = some true) (hs : StepOk P σ o ss h') (hlen : m ≤ (σ.upd ss h').heap.length) (h : AOps P m ops l Q (σ.upd ss h')) : AOps P m ops (o :: l) Q σ := by
  intro r n G a w Q' hm R hQ
  unfold wpListIn
  rw [if_pos (wantA_ok hw R)]
  refine hs r n m G a w Q' _ hm R fun G' a' w' R' hE => ?_
  exact h r n G' a' w' Q' (by rw [← R'.h.nh]; exact hlen) R' (fun e a'' w'' hp => hQ _ _ _ (hp.ext hE))
theorem AOps.skip {d : Nat} (hw : wantA ops.toList σ o = some false) (hd : o.dst = some d) (hlt : d < σ.n) (hb : (σ.get d).isBox = false) (h : AOps P m ops l Q (σ.upd [(d, .tuple [])] none)) : AOps P m ops (o :: l) Q σ := by
  intro r n G a w Q' hm R hQ
  unfold wpListIn
  rw [wantA_ok hw R, if_neg (by simp)]
  refine ⟨fun _ _ => trivial, ?_⟩
  rw [hd]
  exact h r n G _ w Q' hm (R.put (.tuple _ _ #[] rfl (fun i hi => by simp at hi) (fun c hc => by simp at hc)) (fun r off e => by cases e) hb hlt) hQ
theorem AOps.skip0 (hw : wantA ops.toList σ o = some false) (hd : o.dst = none) (h : AOps P m ops l Q σ) : AOps P m ops (o :: l) Q σ := by
  intro r n G a w Q' hm R hQ
  unfold wpListIn
  rw [wantA_ok hw R, if_neg (by simp)]
  refine ⟨fun _ _ => trivial, ?_⟩
  rw [hd]
  exact h r n G _ w Q' hm R hQ
theorem AWp.region {id : Nat} (h : AOps P m ops ops.toList Q σ) : AWp P m (.region id ops false) Q σ :=
  fun r n G a w hm R => wpIn_region_list (h r n G a w _ hm R (fun _ _ _ hp => hp))
end

theorem evBase_len {A : Ar} {T : Types} {an : Ann} {n : Nat} {g : Nat → AV} {H H' : List Obj} {o : Oper} {ss : Sets} (h : evBase A T an n g H o = some (ss, some H')) : H.length ≤ H'.length := by
  have hput : ∀ {dst : Option Tmp} {v : AV}, Am.put n g dst v ≠ some (ss, some H') := by
    intro dst v e; have := (put_some e).1; cases this
  have hputO : ∀ {dst : Option Tmp} {v : Option AV}, putO n g dst v ≠ some (ss, some H') := by
    intro dst v e; obtain ⟨x, _, e⟩ := putO_some e; exact hput e
  have hmap : ∀ {dst : Option Tmp} {v : AV} {q : Sets × Option (List Obj) → Sets}, Option.map (fun p => (q p, p.2)) (Am.put n g dst v) ≠ some (ss, some H') := by
    intro dst v q e
    simp only [Option.map_eq_some_iff] at e
    obtain ⟨⟨s1, h1⟩, e1, e2⟩ := e
    have := (put_some e1).1
    simp at e2; rw [this] at e2; exact absurd e2.2 (by simp)
  have hmap2 : ∀ {dst : Option Tmp} {v : AV} {q : Sets × Option (List Obj) → Sets} {H1 : List Obj}, H1.length = H.length → Option.map (fun p => (q p, some H1)) (Am.put n g dst v) = some (ss, some H') → H.length ≤ H'.length := by
    intro dst v q H1 hl e
    simp only [Option.map_eq_some_iff] at e
    obtain ⟨⟨s1, h1⟩, e1, e2⟩ := e
    simp at e2; rw [← e2.2, hl]; exact Nat.le_refl _
  cases hop : o.op <;> simp only [evBase, hop] at h
  all_goals (repeat' split at h)
  all_goals first
    | (cases h; done)
    | (exact absurd h hput)
    | (exact absurd h hputO)
    | (exact absurd h hmap)
    | (exact hmap2 (by simp) h)
    | (simp at h; done)
    | (simp at h; rw [← h.2]; simp; done)
    | (simp at h; obtain ⟨_, _, _, rfl⟩ := h; simp; done)
theorem evCore_len {A : Ar} {T : Types} {an : Ann} {n : Nat} {g : Nat → AV} {H H' : List Obj} {o : Oper} {ss : Sets} (h : evCore A T an n g H o = some (ss, some H')) : H.length ≤ H'.length := by
  unfold evCore at h
  split at h
  · rename_i r hr
    subst h
    exact evObj_len hr
  · exact evBase_len h
end Go.Am

/- Calls: contracts on abstract values; how a function is entered and left. -/
set_option linter.unusedSimpArgs false
set_option linter.unusedSectionVars false
namespace Go.Am
open Go

/-! ### What a value refers to -/
mutual
def AV.inb (m : Nat) : AV → Bool
  | .ptr a _ | .map a | .mref a _ _ _ | .eptr a _ _ _ | .yield a => decide (a < m)
  | .func _ as bs => inbL m as && inbL m bs
  | .agg cs | .tuple cs | .lbox cs => inbL m cs
  | _ => true
def inbL (m : Nat) : List AV → Bool
  | [] => true
  | c :: r => c.inb m && inbL m r
end
def Obj.inb (m : Nat) : Obj → Bool
  | .cells cs => inbL m cs
  | .loop L => inbL m (L.env.map (·.2))
  | _ => true
theorem inbL_get {m : Nat} : ∀ {cs : List AV}, inbL m cs = true → ∀ (i : Nat) (hi : i < cs.length), cs[i].inb m = true
  | c :: r, h, 0, _ => by simp [inbL] at h; exact h.1
  | c :: r, h, i + 1, hi => by simp [inbL] at h; exact inbL_get h.2 i (by simpa using hi)

theorem inbL_eget {m : Nat} : ∀ {e : List (Nat × AV)}, inbL m (e.map (·.2)) = true → ∀ t, (eget e t).inb m = true
  | [], _, _ => rfl
  | (s, v) :: r, h, t => by
    simp [inbL] at h
    simp only [eget]
    split
    · exact h.1
    · exact inbL_eget (by simpa using h.2) t

/-- The ghosts of another activation: the same cells stay; of what is owned only what S names; fewer objects. -/
structure Sub (G G' : Gh) (w w' : World) (S : Loc → Prop) (m : Nat) : Prop where
  K : KLe G.K G'.K
  O : ∀ (b : Nat) (ℓ : Loc) (f : Nat), S ℓ → G.O b = some (ℓ, f) → G'.O b = some (ℓ, f) ∧ w'.heap[b]? = w.heap[b]?
  β : ∀ a, a < m → G'.β (.o a) = G.β (.o a)
  nh : m ≤ G'.nh

theorem RepV.sub {G G' : Gh} {w w' : World} (hG : Sane G) {m : Nat} {ℓ : Loc} {av : AV} {v : Value} (h : RepV G w ℓ av v) :
    ∀ {S : Loc → Prop}, Sub G G' w w' S m → S ℓ → av.inb m = true → av.isLocal = false → RepV G' w' ℓ av v := by
  have no : ∀ {S : Loc → Prop}, Sub G G' w w' S m → Sub G G' w w' (· = .no) m := fun hp =>
    ⟨hp.K, fun b ℓ f hr hO => absurd (hr ▸ rfl) (hG.no b ℓ f hO), hp.β, hp.nh⟩
  induction h with
  | undef ℓ v => exact fun _ _ _ _ => .undef ℓ v
  | abool ℓ b => exact fun _ _ _ _ => .abool ℓ b
  | d ℓ x v h => exact fun hp _ _ _ => .d ℓ x v (h.mono hp.K)
  | ptr ℓ a off ha => intro S hp _ hb _; simp [AV.inb] at hb; rw [← hp.β a hb]; exact .ptr ℓ a off (Nat.lt_of_lt_of_le hb hp.nh)
  | nilptr ℓ => exact fun _ _ _ _ => .nilptr ℓ
  | iptr ℓ cs b off vs hK h1 h => exact fun hp _ _ _ => .iptr ℓ cs b off vs (fun j hj => hp.K _ _ (hK j hj)) h1 (fun j hj => (h j hj).mono hp.K)
  | own ℓ k l v h ht =>
    intro S hp hS _ _
    refine .own ℓ k l v (h.mono hp.K) ?_
    intro a n cap hv hn
    obtain ⟨f, c, e, h1, h2, h3, h4⟩ := ht a n cap hv hn
    obtain ⟨h5, h6⟩ := hp.O _ _ _ hS h1
    exact ⟨f, c, e, h5, h2, h6.trans h3, h4⟩
  | lim ℓ k l v h ht => exact fun hp _ _ _ => .lim ℓ k l v (h.mono hp.K) ht
  | func ℓ f as bs va vb ha hb _ _ hc hc' ih ih' =>
    intro S hp _ hbl _
    simp [AV.inb] at hbl
    exact .func ℓ f as bs va vb ha hb (fun i hi => ih i hi (no hp) rfl (inbL_get hbl.1 i hi) (hc _ (List.getElem_mem hi))) (fun i hi => ih' i hi (no hp) rfl (inbL_get hbl.2 i hi) (hc' _ (List.getElem_mem hi))) hc hc'
  | nilfunc ℓ => exact fun _ _ _ _ => .nilfunc ℓ
  | yield ℓ l hl => intro S hp _ hb _; simp [AV.inb] at hb; rw [← hp.β l hb]; exact .yield ℓ l (Nat.lt_of_lt_of_le hb hp.nh)
  | map ℓ a ha => intro S hp _ hb _; simp [AV.inb] at hb; rw [← hp.β a hb]; exact .map ℓ a (Nat.lt_of_lt_of_le hb hp.nh)
  | nilmap ℓ => exact fun _ _ _ _ => .nilmap ℓ
  | lbox t cs vs e hO hw hs _ hc ih => intro S _ _ _ hl; simp [AV.isLocal] at hl
  | place ℓ r off => intro S _ _ _ hl; simp [AV.isLocal] at hl
  | mref ℓ a k lo n b off cap ha h1 h2 h3 h4 => intro S hp _ hb _; simp [AV.inb] at hb; exact .mref ℓ a k lo n b off cap (Nat.lt_of_lt_of_le hb hp.nh) h1 h2 h3 (fun h => by rw [hp.β a hb]; exact h4 h)
  | eptr ℓ a k i j ha hi => intro S hp _ hb _; simp [AV.inb] at hb; rw [← hp.β a hb]; exact .eptr ℓ a k i j (Nat.lt_of_lt_of_le hb hp.nh) hi
  | agg ℓ cs vs hs _ hc hf ih =>
    intro S hp _ hbl _
    simp [AV.inb] at hbl
    exact .agg ℓ cs vs hs (fun i hi => ih i hi (no hp) rfl (inbL_get hbl i hi) (AV.isLocal_of_isCell (hc _ (List.getElem_mem hi)))) hc hf
  | tuple ℓ cs vs hs _ hc ih =>
    intro S hp _ hbl _
    simp [AV.inb] at hbl
    exact .tuple ℓ cs vs hs (fun i hi => ih i hi (no hp) rfl (inbL_get hbl i hi) (hc _ (List.getElem_mem hi))) hc

theorem RepObj.sub {G G' : Gh} {w w' : World} (hG : Sane G) {i m : Nat} {ob : Obj} (h : RepObj G w i ob) (hi : i < m) {S : Loc → Prop} (hp : Sub G G' w w' S m) (hS : S (.o i)) (hSc : ∀ j, S (.oc i j)) (hb : ob.inb m = true) : RepObj G' w' i ob := by
  cases ob with
  | cells cs =>
    obtain ⟨vs, e, h1, h2, h3, h4, h5⟩ := h
    obtain ⟨h6, h7⟩ := hp.O _ _ _ hS h1
    have hβ := hp.β i hi
    rw [← hβ] at h2 h6 h7
    exact ⟨vs, e, h6, h7.trans h2, h3, fun j hj => (h4 j hj).sub hG hp (hSc j) (inbL_get hb j hj) (AV.isLocal_of_isCell (h5 _ (List.getElem_mem hj))), h5⟩
  | arr k l =>
    obtain ⟨vs, e, h1, h2, h3, h4, h8, h5⟩ := h
    obtain ⟨h6, h7⟩ := hp.O _ _ _ hS h1
    have hβ := hp.β i hi
    rw [← hβ] at h2 h6 h7
    exact ⟨vs, e, h6, h7.trans h2, h3, h4, h8, fun j hj => (h5 j hj).mono hp.K⟩
  | map agg ks es =>
    obtain ⟨ms, clock, h1, h2, h3⟩ := h
    obtain ⟨h6, h7⟩ := hp.O _ _ _ hS h1
    have hβ := hp.β i hi
    rw [← hβ] at h2 h6 h7
    exact ⟨ms, clock, h6, h7.trans h2, h3.mono hp.K⟩
  | loop L =>
    obtain ⟨fn, tmps, D, h1, h2, h3, h4, h5⟩ := h
    obtain ⟨h6, h7⟩ := hp.O _ _ _ hS h1
    have hβ := hp.β i hi
    rw [← hβ] at h2 h6 h7
    refine ⟨fn, tmps, D, h6, h7.trans h2, h3, fun t => ?_, h5⟩
    have hl : (eget L.env t).isLocal = false := by
      have := h5 t
      generalize eget L.env t = c at this
      cases c <;> first | rfl | (simp [AV.free] at this)
    exact (h4 t).sub hG (⟨hp.K, fun b ℓ f hr hO => absurd (hr ▸ rfl) (hG.no b ℓ f hO), hp.β, hp.nh⟩ : Sub G G' w w' (· = .no) m) rfl (inbL_eget hb t) hl
  | dead => trivial

def objsInb (m : Nat) : List Obj → Bool
  | [] => true
  | o :: r => o.inb m && objsInb m r
/-- A function's contract: at these values, with these objects handed in, it returns that value and leaves those objects. -/
def callable (P : Program) (f : FuncId) : Bool :=
  match P.funcs[f]? with
  | some fn => fn.name != "runtime.NumGoroutine" && fn.body.isSome
  | none => false
def ACall (P : Program) (f : FuncId) (args : List AV) (H : List Obj) (r : AV) (H' : List Obj) : Prop :=
  callable P f = true ∧ r.isLocal = false ∧ r.inb H'.length = true ∧ objsInb H'.length H' = true ∧ H.length ≤ H'.length ∧ ∀ (n : Nat) (G : Gh) (w : World) (vs : Array Value), vs.size = args.length → (∀ (i : Nat) (hi : i < args.length), RepV G w .no args[i] (vs.getD i Go.undef)) → RelH G H w →
    (∀ b ℓ f, G.O b = some (ℓ, f) → ∃ i, ℓ.root = .o i) →
    CallsIn (Wd none) n P f vs w (fun e w' => ∃ v G', e = .returned v ∧ RepV G' w' .ret r v ∧ RelH G' H' w' ∧ Ext H.length G w G' w')

/-- The arguments of an activation. -/
def envOf : Nat → List AV → List (Nat × AV)
  | _, [] => []
  | i, v :: r => (i, v) :: envOf (i + 1) r
theorem eget_envOf : ∀ (args : List AV) (i t : Nat), eget (envOf i args) t = if i ≤ t ∧ t < i + args.length then args.getD (t - i) .undef else .undef
  | [], i, t => by simp [envOf, eget]
  | v :: r, i, t => by
    simp only [envOf, eget, List.length_cons]
    by_cases h : i = t
    · subst h; simp
    · rw [if_neg h, eget_envOf r (i + 1) t]
      by_cases h2 : i + 1 ≤ t ∧ t < i + 1 + r.length
      · rw [if_pos h2, if_pos (by omega), show t - i = (t - (i + 1)) + 1 by omega]; simp
      · rw [if_neg h2, if_neg (by omega)]

/-- What a function's results are, in a last state. -/
def resOne (T : Types) (σ : St) (own : Bool) : ResultVar → Option AV
  | .tmp t => match σ.get t with
    | .lbox _ | .place .. => none
    | .lim k l => some (.d (.list k l))
    | v => some (if own then v else v.copy)
  | .cell t ty => match σ.get t, T ty with
    | .lbox cs, some td => readAt td cs 0
    | .ptr i off, some td => match σ.heap[i]? with
      | some (.cells cs) => readAt td cs off
      | _ => none
    | _, _ => none
def resAV (T : Types) (σ : St) : List ResultVar → Option AV
  | [x] => resOne T σ true x
  | l => (l.mapM (resOne T σ false)).map .tuple
/-- What is asked where a function is left. m: how many objects were handed in. -/
def FnPost (T : Types) (fn : Func) (m : Nat) (r : AV) (H' : List Obj) : Exit → St → Prop
  | .normal, σ | .ret, σ => resAV T σ fn.results.toList = some r ∧ r.inb H'.length = true ∧ objsInb H'.length H' = true ∧ m ≤ H'.length ∧ ∃ junk, σ.heap = H' ++ junk
  | _, _ => False

/-- Which blocks the first m objects own. -/
def objLoc (m : Nat) : Loc → Bool
  | .o i | .oc i _ => decide (i < m)
  | _ => false
/-- The ghosts that a callee is handed. -/
def Gh.handed (G : Gh) (m : Nat) : Gh :=
  { K := G.K, β := G.β, nh := m
    O := fun b => match G.O b with
      | some (ℓ, f) => if objLoc m ℓ then some (ℓ, f) else none
      | none => none }
theorem handed_O {G : Gh} {m b : Nat} {ℓ : Loc} {f : Nat} (h : (G.handed m).O b = some (ℓ, f)) : G.O b = some (ℓ, f) ∧ objLoc m ℓ = true := by
  simp only [Gh.handed] at h
  split at h
  · split at h
    · rename_i ℓ' f' hO hl; simp at h; obtain ⟨rfl, rfl⟩ := h; exact ⟨hO, hl⟩
    · cases h
  · cases h
theorem handed_none {G : Gh} {m b : Nat} (h : ∀ ℓ f, G.O b = some (ℓ, f) → objLoc m ℓ = false) : (G.handed m).O b = none := by
  simp only [Gh.handed]
  split
  · rename_i ℓ f hO; rw [h ℓ f hO]; rfl
  · rfl
theorem objsInb_get {m : Nat} : ∀ {H : List Obj}, objsInb m H = true → ∀ (i : Nat) (ob : Obj), H[i]? = some ob → ob.inb m = true
  | o :: r, h, 0, ob, e => by simp [objsInb] at h; simp at e; subst e; exact h.1
  | o :: r, h, i + 1, ob, e => by simp [objsInb] at h; exact objsInb_get h.2 i ob (by simpa using e)

theorem RelH.handed {G : Gh} {H rest : List Obj} {w : World} (R : RelH G (H ++ rest) w) (hc : objsInb H.length H = true) : RelH (G.handed H.length) H w := by
  have hm : H.length ≤ G.nh := by rw [← R.nh]; simp
  have hsub : Sub G (G.handed H.length) w w (fun ℓ => objLoc H.length ℓ = true) H.length :=
    ⟨KLe.refl _, fun b ℓ f hl hO => ⟨by simp [Gh.handed, hO, hl], rfl⟩, fun _ _ => rfl, Nat.le_refl _⟩
  refine ⟨⟨fun b ℓ f h => R.sane.no b ℓ f (handed_O h).1⟩, rfl, fun i ob hob => ?_, R.kept, fun b ℓ f h => R.disj b ℓ f (handed_O h).1⟩
  have hi : i < H.length := (List.getElem?_eq_some_iff.1 hob).1
  exact (R.objs i ob (by rw [List.getElem?_append_left hi]; exact hob)).sub R.sane hi hsub (by simp [objLoc, hi]) (fun j => by simp [objLoc, hi]) (objsInb_get hc i ob hob)

/-- Owned, but not handed to the callee. -/
def Gh.foreign (G : Gh) (m b : Nat) : Bool :=
  match G.O b with
  | some (ℓ, _) => !objLoc m ℓ
  | none => false
/-- The ghosts of a caller behind a call. m: objects handed in; k: objects handed back; d: where the result goes; q: objects that were not handed in. -/
def Gh.back (G G3 : Gh) (m k d q : Nat) : Gh :=
  { K := G3.K
    O := fun b => if G.foreign m b then G.O b else
      match G3.O b with
      | some (ℓ, f) => if objLoc k ℓ then some (ℓ, f) else if ℓ = .ret then some (.s d, f) else none
      | none => none
    β := fun
      | .o i => if i < k then G3.β (.o i) else G.β (.o i)
      | r => G.β r
    nh := k + q }

theorem back_O {G G3 : Gh} {m k d q b : Nat} {ℓ : Loc} {f : Nat} (h : (G.back G3 m k d q).O b = some (ℓ, f)) :
    (G.foreign m b = true ∧ G.O b = some (ℓ, f)) ∨ (G.foreign m b = false ∧ ∃ ℓ', G3.O b = some (ℓ', f) ∧ ((objLoc k ℓ' = true ∧ ℓ = ℓ') ∨ (ℓ' = .ret ∧ ℓ = .s d))) := by
  simp only [Gh.back] at h
  split at h
  · rename_i hf; exact .inl ⟨hf, h⟩
  · rename_i hf
    refine .inr ⟨by simpa using hf, ?_⟩
    split at h
    · rename_i ℓ' f' hO
      split at h
      · rename_i hl; simp at h; obtain ⟨rfl, rfl⟩ := h; exact ⟨_, hO, .inl ⟨hl, rfl⟩⟩
      · split at h
        · rename_i hr; simp at h; obtain ⟨rfl, rfl⟩ := h; exact ⟨_, hO, .inr ⟨hr, rfl⟩⟩
        · cases h
    · cases h

theorem Rel.backO {G G3 : Gh} {σ : St} {a : Act} {w w' : World} (R : Rel G σ a w) {H rest H' : List Obj} (hH : σ.heap = H ++ rest) (hr : rest = [] ∨ H'.length = H.length) (hHH : H.length ≤ H'.length)
    (R3 : RelH G3 H' w') (hE : Ext H.length (G.handed H.length) w G3 w') (hin : objsInb H'.length H' = true) {d : Option Nat} {r : AV} {v : Value} (hv : RepV G3 w' .ret r v) (hrl : r.isLocal = false) (hri : r.inb H'.length = true)
    (hd : ∀ x, d = some x → x < σ.n ∧ (σ.get x).isBox = false) :
    Rel (G.back G3 H.length H'.length (d.getD 0) rest.length) { σ with env := (match d with | some x => eset σ.env x r | none => σ.env), heap := H' ++ rest } (a.put d v) w' ∧
      ∀ m, m ≤ G.nh → Ext m G w (G.back G3 H.length H'.length (d.getD 0) rest.length) w' := by
  let Gf := G.back G3 H.length H'.length (d.getD 0) rest.length
  have hnh : G.nh = H.length + rest.length := by rw [← R.h.nh, hH]; simp
  -- what was not handed in
  have hfor : ∀ b ℓ f, G.O b = some (ℓ, f) → objLoc H.length ℓ = false → Gf.O b = some (ℓ, f) ∧ w'.heap[b]? = w.heap[b]? ∧ G3.O b = none := by
    intro b ℓ f hO hl
    have hc : (G.handed H.length).O b = none := handed_none fun ℓ' f' h' => by rw [hO] at h'; simp at h'; obtain ⟨rfl, _⟩ := h'; exact hl
    obtain ⟨h1, h2⟩ := hE.others b (R.h.disj b ℓ f hO).1 hc
    refine ⟨?_, h1, h2⟩
    have : G.foreign H.length b = true := by simp [Gh.foreign, hO, hl]
    simp only [Gf, Gh.back, this, if_true, hO]
  -- what the callee hands back
  have hback : ∀ b ℓ f, G3.O b = some (ℓ, f) → (objLoc H'.length ℓ = true → Gf.O b = some (ℓ, f)) ∧ (ℓ = .ret → Gf.O b = some (.s (d.getD 0), f)) := by
    intro b ℓ f hO
    have hnf : G.foreign H.length b = false := by
      cases hG : G.O b with
      | none => simp [Gh.foreign, hG]
      | some p =>
        obtain ⟨ℓ', f'⟩ := p
        cases hl : objLoc H.length ℓ' with
        | true => simp [Gh.foreign, hG, hl]
        | false => rw [(hfor b ℓ' f' hG hl).2.2] at hO; cases hO
    constructor
    · intro hl; simp only [Gf, Gh.back, hnf, hO]; simp [hl]
    · rintro rfl; simp only [Gf, Gh.back, hnf, hO]; simp [objLoc]
  have hβ : ∀ i, i < G.nh → Gf.β (.o i) = G.β (.o i) := by
    intro i hi
    simp only [Gf, Gh.back]
    split
    · rename_i hk
      rcases Nat.lt_or_ge i H.length with h | h
      · exact hE.β i h
      · rcases hr with rfl | hr
        · simp at hnh; omega
        · omega
    · rfl
  have hp1 : Pres G Gf w w' (fun ℓ => objLoc H.length ℓ = false) :=
    ⟨hE.K, fun b ℓ f hl hO => ⟨(hfor b ℓ f hO hl).1, (hfor b ℓ f hO hl).2.1⟩, hβ, by simp only [Gf, Gh.back]; omega⟩
  have hp2 : Sub G3 Gf w' w' (fun ℓ => objLoc H'.length ℓ = true) H'.length :=
    ⟨KLe.refl _, fun b ℓ f hl hO => ⟨(hback b ℓ f hO).1 hl, rfl⟩, fun i hi => by simp [Gf, Gh.back, hi], by simp [Gf, Gh.back]⟩
  have hslots : ∀ t, RepV Gf w' (.s t) (σ.get t) (a.tmps.getD t Go.undef) := fun t => (R.slots t).pres R.h.sane hp1 rfl (fun _ _ _ => rfl) (fun _ _ _ => ⟨rfl, fun j => rfl⟩)
  refine ⟨⟨⟨⟨fun b ℓ f h => ?_⟩, by simp [Gf, Gh.back], fun i ob hob => ?_, R3.kept, fun b ℓ f h => ?_⟩, by cases d <;> simpa [Act.put] using R.size, ?_, ?_, ?_⟩, fun m hm => ?_⟩
  · rcases back_O h with ⟨_, hO⟩ | ⟨_, ℓ', hO, ⟨hl, rfl⟩ | ⟨rfl, rfl⟩⟩
    · exact R.h.sane.no b ℓ f hO
    · exact R3.sane.no b ℓ f hO
    · simp [Loc.root]
  · rcases Nat.lt_or_ge i H'.length with hi | hi
    · simp only [List.getElem?_append_left hi] at hob
      exact (R3.objs i ob hob).sub R3.sane hi hp2 (by simp [objLoc, hi]) (fun j => by simp [objLoc, hi]) (objsInb_get hin i ob hob)
    · simp only [List.getElem?_append_right hi] at hob
      have hlen : H'.length = H.length := by
        rcases hr with rfl | hr
        · simp at hob
        · exact hr
      have hob' : σ.heap[i]? = some ob := by rw [hH, List.getElem?_append_right (by omega), ← hlen]; exact hob
      exact (R.h.objs i ob hob').pres R.h.sane (by rw [← R.h.nh]; exact (List.getElem?_eq_some_iff.1 hob').1) hp1 (by simp [objLoc]; omega) (fun j => by simp [objLoc]; omega)
  · rcases back_O h with ⟨hf, hO⟩ | ⟨_, ℓ', hO, _⟩
    · obtain ⟨h1, h2⟩ := R.h.disj b ℓ f hO
      refine ⟨Nat.lt_of_lt_of_le h1 hE.size, fun j hj => ?_⟩
      have hl : objLoc H.length ℓ = false := by simpa [Gh.foreign, hO] using hf
      cases hK : Gf.K ⟨b, j, none⟩ with
      | none => rfl
      | some x =>
        rcases hE.new ⟨b, j, none⟩ x hK with h3 | ⟨p, h3⟩ | h3
        · rw [show (G.handed H.length).K = G.K from rfl, h2 j hj] at h3; cases h3
        · obtain ⟨ℓ', f'⟩ := p
          obtain ⟨h4, h5⟩ := handed_O h3
          rw [hO] at h4; simp at h4; obtain ⟨rfl, _⟩ := h4
          rw [hl] at h5; cases h5
        · simp at h3; omega
    · exact R3.disj b ℓ' f hO
  · intro t
    cases d with
    | none => exact hslots t
    | some d =>
    obtain ⟨hlt, hb⟩ := hd d rfl
    have hd' : d < a.tmps.size := by rw [R.size]; exact hlt
    simp only [Act.put, getD_set _ _ _ _ hd', St.get, eget_eset]
    split
    · rename_i e; subst e
      by_cases hfree : r.free = true
      · exact ((hv.anywhere hfree .no).sub R3.sane (⟨KLe.refl _, fun b ℓ f hl hO => absurd (hl ▸ rfl) (R3.sane.no b ℓ f hO), hp2.β, hp2.nh⟩ : Sub G3 Gf w' w' (fun ℓ => ℓ = .no) H'.length) rfl hri hrl).anywhere hfree _
      · cases r <;> first | (simp [AV.free] at hfree; done) | (simp [AV.isLocal] at hrl; done) | skip
        · cases hv with | own _ k l v h ht =>
          refine .own _ _ _ _ h ?_
          intro a' n cap e hn
          obtain ⟨f, c, e', h1, h2, h3, h4⟩ := ht a' n cap e hn
          exact ⟨f, c, e', (hback _ _ _ h1).2 rfl, h2, h3, h4⟩
        · cases hv with | lim _ k l v h ht =>
          exact .lim _ _ _ _ h ht
    · exact hslots t
  · intro t r' off ht
    cases d with
    | none => exact R.places t r' off ht
    | some d =>
    obtain ⟨hlt, hb⟩ := hd d rfl
    simp only [St.get, eget_eset] at ht ⊢
    split at ht
    · subst ht; simp [AV.isLocal] at hrl
    · obtain ⟨cs, hcs⟩ := R.places t r' off ht
      refine ⟨cs, ?_⟩
      split
      · rename_i e; subst e; rw [hcs] at hb; simp [AV.isBox] at hb
      · exact hcs
  · have hdf : (a.put d v).defers = a.defers := by cases d <;> rfl
    rw [hdf]
    refine ⟨R.df.1, fun x hx => ?_⟩
    obtain ⟨r0, h1, h2, h3⟩ := R.df.2 x hx
    obtain ⟨h4, h5, _⟩ := hfor _ _ _ h2 rfl
    exact ⟨r0, h1, h4, h5.trans h3⟩
  · refine ⟨hE.K, fun x v hx => ?_, fun b hb hO => ?_, hE.size, fun i hi => hβ i (by omega), hE.io⟩
    · rcases hE.new x v hx with h | ⟨p, h⟩ | h
      · exact .inl h
      · obtain ⟨ℓ, f⟩ := p; exact .inr (.inl ⟨_, (handed_O h).1⟩)
      · exact .inr (.inr h)
    · have hc : (G.handed H.length).O b = none := handed_none fun ℓ f h => by rw [hO] at h; cases h
      obtain ⟨h1, h2⟩ := hE.others b hb hc
      refine ⟨h1, ?_⟩
      have : G.foreign H.length b = false := by simp [Gh.foreign, hO]
      simp [Gh.back, this, h2]

theorem Rel.back {G G3 : Gh} {σ : St} {a : Act} {w w' : World} (R : Rel G σ a w) {H rest H' : List Obj} (hH : σ.heap = H ++ rest) (hr : rest = [] ∨ H'.length = H.length) (hHH : H.length ≤ H'.length)
    (R3 : RelH G3 H' w') (hE : Ext H.length (G.handed H.length) w G3 w') (hin : objsInb H'.length H' = true) {d : Nat} {r : AV} {v : Value} (hv : RepV G3 w' .ret r v) (hrl : r.isLocal = false) (hri : r.inb H'.length = true)
    (hlt : d < σ.n) (hb : (σ.get d).isBox = false) :
    Rel (G.back G3 H.length H'.length d rest.length) { σ with env := eset σ.env d r, heap := H' ++ rest } (a.put (some d) v) w' ∧
      ∀ m, m ≤ G.nh → Ext m G w (G.back G3 H.length H'.length d rest.length) w' := by
  have := R.backO (d := some d) hH hr hHH R3 hE hin hv hrl hri (fun x e => by cases e; exact ⟨hlt, hb⟩)
  exact this

/-! ### A call in a region -/
theorem callsIn_wd {r : Option Nat} {n : Nat} {P : Program} {f : FuncId} {args : Array Value} {w : World} {R : Ending → World → Prop} (h : CallsIn (Wd none) n P f args w R) : CallsIn (Wd r) n P f args w R := h

/-- Which function an operation calls, and with what. -/
def callOf (T : Types) (σ : St) (o : Oper) : Option (FuncId × List AV) :=
  match o.op with
  | .call { callee := .value x, args, argTypes } =>
    match (match x with | .func f => some (f, [], []) | .tmp t => (match σ.get t with | .func f as bs => some (f, as, bs) | _ => none) | _ => none), ((args.toList.zip argTypes.toList).mapM fun p => opv T σ.get p.2 p.1) with
    | some (f, as, bs), some vs => if args.size = argTypes.size then some (f, as ++ vs.map AV.copy ++ bs) else none
    | _, _ => none
  | _ => none

theorem mapM_some {α β : Type} {f : α → Option β} : ∀ {xs : List α} {ys : List β}, xs.mapM f = some ys → ys.length = xs.length ∧ ∀ (i : Nat) (hi : i < xs.length) (hi' : i < ys.length), f xs[i] = some ys[i]
  | [], ys, h => by simp at h; subst h; exact ⟨rfl, fun i hi => by simp at hi⟩
  | x :: r, ys, h => by
    simp only [List.mapM_cons, Option.bind_eq_bind, Option.bind_eq_some_iff, Option.pure_def, Option.some.injEq] at h
    obtain ⟨v, hv, l', hl', rfl⟩ := h
    obtain ⟨e1, e2⟩ := mapM_some hl'
    refine ⟨by simp [e1], fun i hi hi' => ?_⟩
    cases i with
    | zero => exact hv
    | succ i => exact e2 i (by simpa using hi) (by simpa using hi')

theorem rep_append {G : Gh} {w : World} {A B : List AV} {va vb : Array Value} (ha : va.size = A.length) (hb : vb.size = B.length) (h1 : ∀ (i : Nat) (hi : i < A.length), RepV G w .no A[i] (va.getD i Go.undef))
    (h2 : ∀ (i : Nat) (hi : i < B.length), RepV G w .no B[i] (vb.getD i Go.undef)) : (va ++ vb).size = (A ++ B).length ∧ ∀ (i : Nat) (hi : i < (A ++ B).length), RepV G w .no (A ++ B)[i] ((va ++ vb).getD i Go.undef) := by
  refine ⟨by simp [ha, hb], fun i hi => ?_⟩
  simp at hi
  by_cases c : i < A.length
  · rw [List.getElem_append_left c]
    simpa [Array.getD_eq_getD_getElem?, Array.getElem?_append_left (show i < va.size by omega)] using h1 i c
  · rw [List.getElem_append_right (by omega)]
    have := h2 (i - A.length) (by omega)
    simpa [Array.getD_eq_getD_getElem?, Array.getElem?_append_right (show va.size ≤ i by omega), ha] using this
theorem less_get (σ : St) : Less σ.get σ := fun _ => .inl rfl

section
variable {P : Program} {T : Types} {m : Nat} {Q : Exit → St → Prop} {σ : St} {ops : Array Oper} {o : Oper} {l : List Oper}

theorem callOf_ok {f : FuncId} {args : List AV} (h : callOf T σ o = some (f, args)) (hc : callable P f = true) {G : Gh} {a : Act} {w : World} (R : Rel G σ a w) :
    (∀ c, o.op ≠ .defer c) ∧ ∃ vs : Array Value, (execOp a.eval o).run P w = .ok (.enter f vs) w ∧ vs.size = args.length ∧ ∀ (i : Nat) (hi : i < args.length), RepV G w .no args[i] (vs.getD i Go.undef) := by
  unfold callOf at h
  split at h
  · rename_i x xs ts hop
    refine ⟨by simp [hop], ?_⟩
    split at h
    · rename_i f' as bs vs hfn hvs
      split at h
      · rename_i hsz
        simp at h
        obtain ⟨rfl, rfl⟩ := h
        obtain ⟨e1, e2⟩ := mapM_some hvs
        -- the function's value
        have hfv : ∃ va vb : Array Value, a.eval x = .func (.func f') va vb ∧ va.size = as.length ∧ vb.size = bs.length ∧
            (∀ (i : Nat) (hi : i < as.length), RepV G w .no as[i] (va.getD i Go.undef)) ∧ ∀ (i : Nat) (hi : i < bs.length), RepV G w .no bs[i] (vb.getD i Go.undef) := by
          cases x with
          | func q =>
            simp at hfn
            obtain ⟨rfl, rfl, rfl⟩ := hfn
            exact ⟨#[], #[], rfl, rfl, rfl, fun i hi => by simp at hi, fun i hi => by simp at hi⟩
          | tmp t =>
            simp only at hfn
            split at hfn
            · rename_i f'' as' bs' hg
              simp at hfn
              obtain ⟨rfl, rfl, rfl⟩ := hfn
              have hrep := R.slots t
              rw [hg] at hrep
              show ∃ va vb : Array Value, a.tmps.getD t Go.undef = _ ∧ _
              generalize a.tmps.getD t Go.undef = v at hrep
              cases hrep with | func _ _ _ _ va vb ha hb h1 h2 _ _ => exact ⟨va, vb, rfl, ha, hb, h1, h2⟩
            · cases hfn
          | _ => simp at hfn
        obtain ⟨va, vb, hx, ha, hb, h1, h2⟩ := hfv
        have hcall : (callFunc f' (va ++ xs.map a.eval ++ vb)).run P w = .ok (.enter f' (va ++ xs.map a.eval ++ vb)) w := by
          unfold callable at hc
          unfold callFunc
          simp only [Sem.run_bind, run_program, Result.andThen_ok]
          split at hc
          · rename_i fn hfn'
            simp at hc
            rw [hfn']
            simp [hc.1, Option.isSome_iff_ne_none.1 hc.2]
          · cases hc
        have hlv : (xs.map a.eval).size = (vs.map AV.copy).length := by simp [e1]; omega
        have hmid : ∀ (i : Nat) (hi : i < (vs.map AV.copy).length), RepV G w .no (vs.map AV.copy)[i] ((xs.map a.eval).getD i Go.undef) := by
          intro i hi
          simp at hi
          have hz : i < (xs.toList.zip ts.toList).length := by omega
          have := (opv_ok (less_get σ) R (e2 i hz hi) .no).1.copy .no
          have hxs : i < xs.size := by simp at hz; omega
          simpa [Array.getD_eq_getD_getElem?, hxs] using this
        obtain ⟨k1, k2⟩ := rep_append ha hlv h1 hmid
        obtain ⟨k3, k4⟩ := rep_append k1 hb k2 h2
        have hrun : (execOp a.eval o).run P w = .ok (.enter f' (va ++ xs.map a.eval ++ vb)) w := by
          simp only [execOp, hop, Sem.run_bind, resolve, hx, Deferred.ofValue, Sem.run_pure, Result.andThen_ok, invoke]
          exact hcall
        refine ⟨va ++ xs.map a.eval ++ vb, hrun, ?_⟩
        rw [List.append_assoc] at k3 k4
        exact ⟨k3, k4⟩
      · cases h
    · cases h
  · cases h

theorem AOps.call {f : FuncId} {args : List AV} {H rest H' : List Obj} {r : AV} {d : Nat} (hw : wantA ops.toList σ o = some true) (hcall : callOf T σ o = some (f, args)) (hH : σ.heap = H ++ rest)
    (hr : rest = [] ∨ H'.length = H.length) (hin : objsInb H.length H = true) (hargs : inbL H.length args = true) (hd : o.dst = some d) (hlt : d < σ.n) (hb : (σ.get d).isBox = false)
    (hfr : args.all AV.free = true) (hc : ACall P f args H r H') (h : AOps P m ops l Q { σ with env := eset σ.env d r, heap := H' ++ rest }) : AOps P m ops (o :: l) Q σ := by
  intro rr n G a w Q' hm' R hQ
  unfold wpListIn
  rw [if_pos (wantA_ok hw R)]
  obtain ⟨hcb, hrl, hri, hin', hHH, hcc⟩ := hc
  obtain ⟨hnd, vs, hrun, hvs, hrep⟩ := callOf_ok hcall hcb R
  have RH : RelH G (H ++ rest) w := by rw [← hH]; exact R.h
  have hRh := RH.handed hin
  have hfr' : ∀ c ∈ args, c.free = true := by simpa using hfr
  have hsub : Sub G (G.handed H.length) w w (fun ℓ => ℓ = .no) H.length :=
    ⟨KLe.refl _, fun b ℓ f hl hO => absurd (hl ▸ rfl) (R.h.sane.no b ℓ f hO), fun _ _ => rfl, Nat.le_refl _⟩
  refine ⟨fun _ _ => trivial, ?_⟩
  rw [Oper.semAt_eq _ _ _ hnd, hrun]
  refine ⟨fun hh => by simp [Wd] at hh, ?_⟩
  refine CallsIn.mono (callsIn_wd (hcc (n - 1) (G.handed H.length) w vs hvs (fun i hi => ?_) hRh (fun b ℓ f hO => ?_))) ?_
  · exact (hrep i hi).sub R.h.sane hsub rfl (inbL_get hargs i hi) (AV.free_isLocal (hfr' _ (List.getElem_mem hi)))
  · have := (handed_O hO).2
    cases ℓ <;> simp [objLoc] at this
    · rename_i i; exact ⟨i, rfl⟩
    · rename_i i j; exact ⟨i, rfl⟩
  · rintro e w' ⟨v, G3, rfl, hv, R3, hE⟩
    obtain ⟨R', hext⟩ := R.back hH hr hHH R3 hE hin' hv hrl hri hlt hb
    show wpListIn _ _ _ _ _ _ (a.put o.dst v) w'
    rw [hd]
    refine h rr n _ _ w' Q' ?_ R' (fun e a' w'' hp => hQ e a' w'' (hp.ext (hext m hm')))
    have hnh : G.nh = H.length + rest.length := by rw [← R.h.nh, hH]; simp
    simp [Gh.back]; omega
end

/-! ### A function, from its body -/
/-- The world behind the marks: only what the marks own has turned. -/
def DfOnly (G : Gh) (w w' : World) : Prop := w'.heap.size = w.heap.size ∧ (∀ b, G.O b ≠ some (.df, 0) → w'.heap[b]? = w.heap[b]?) ∧ w'.os = w.os ∧ w'.output = w.output ∧ ∀ a, w'.frozen? a = w.frozen? a

theorem leaves_marks {P : Program} {n : Nat} {fn : Func} {tmps : Array Value} {R : Ending → World → Prop} {G : Gh} : ∀ (ds : List Deferred) (w : World), RelF G ds w →
    (∀ w', DfOnly G w w' → ∃ v, (results fn tmps).run P w' = .ok v w' ∧ R (.returned v) w') → LeavesInM (Wd none) n P fn tmps R ds .returning w
  | [], w, _, h => by
    obtain ⟨v, h1, h2⟩ := h w ⟨rfl, fun _ _ => rfl, rfl, rfl, fun _ => rfl⟩
    exact ⟨v, h1, h2⟩
  | d :: ds, w, hF, h => by
    obtain ⟨hnd, hall⟩ := hF
    obtain ⟨r, rfl, hO, hw⟩ := hall d (by simp)
    have hlt : r < w.heap.size := (Array.getElem?_eq_some_iff.1 hw).1
    let w1 : World := { w with heap := w.heap.setIfInBounds r (.deferred none) }
    have hother : ∀ b, b ≠ r → w1.heap[b]? = w.heap[b]? := by
      intro b hb; show (w.heap.setIfInBounds r _)[b]? = _; rw [Array.getElem?_setIfInBounds_ne (Ne.symm hb)]
    have htake : (Instr.takeDeferred r).run P w = .ok [] w1 := by
      simp [Instr.takeDeferred, getObj, setObj, Sem.run, hw, w1]
    refine ⟨by simp, .inl ⟨r, w1, rfl, htake, ?_⟩⟩
    simp at hnd
    refine leaves_marks (G := G) ds w1 ⟨hnd.2, fun d hd => ?_⟩ ?_
    · obtain ⟨r', rfl, h1, h2⟩ := hall d (by simp [hd])
      refine ⟨r', rfl, h1, ?_⟩
      rw [hother r' ?_]; exact h2
      rintro rfl
      exact hnd.1 _ hd rfl
    · rintro w' ⟨hs, hb, hio1, hio2, hio3⟩
      refine h w' ⟨by rw [hs]; simp [w1], fun b hne => ?_, hio1, hio2, fun a => (hio3 a).trans ?_⟩
      · rw [hb b hne, hother b ?_]
        rintro rfl; exact hne hO
      · by_cases hab : a.block = r
        · unfold World.frozen?
          rw [hab, hw, show w1.heap[r]? = some (.deferred none) by simp [w1, hlt]]
        · unfold World.frozen?
          rw [hother _ hab]

def resAct (tmps : Array Value) : ResultVar → Sem Value
  | .tmp t => pure (tmps.getD t Go.undef)
  | .cell a t => do loadVar t (← asAddr (tmps.getD a Go.undef))

theorem resOne_ok {P : Program} {T : Types} (hT : TOk P T) {G : Gh} {σ : St} {a : Act} {w : World} (R : Rel G σ a w) {own : Bool} {x : ResultVar} {av : AV} (h : resOne T σ own x = some av) :
    ∃ v, (resAct a.tmps x).run P w = .ok v w ∧ av.isLocal = false ∧ ((av.free = true ∧ ∀ ℓ, RepV G w ℓ av v) ∨ ∃ t k l, own = true ∧ av = .own k l ∧ RepV G w (.s t) (.own k l) v) := by
  cases x with
  | tmp t =>
    simp only [resOne] at h
    have hrep := R.slots t
    refine ⟨a.tmps.getD t Go.undef, by simp [resAct], ?_⟩
    have key : ∀ v, σ.get t = v → v.isLocal = false → (∀ k l, v ≠ .lim k l) → some (if own then v else v.copy) = some av → av.isLocal = false ∧ ((av.free = true ∧ ∀ ℓ, RepV G w ℓ av (a.tmps.getD t Go.undef)) ∨ ∃ t' k l, own = true ∧ av = .own k l ∧ RepV G w (.s t') (.own k l) (a.tmps.getD t Go.undef)) := by
      intro v hv hl hnl he
      rw [hv] at hrep
      simp at he; subst he
      cases own with
      | false => exact ⟨AV.copy_isLocal _, .inl ⟨AV.copy_free _, fun ℓ => hrep.copy ℓ⟩⟩
      | true =>
        refine ⟨hl, ?_⟩
        by_cases hf : v.free = true
        · exact .inl ⟨hf, fun ℓ => hrep.anywhere hf ℓ⟩
        · cases v <;> first | (simp [AV.free] at hf; done) | (simp [AV.isLocal] at hl; done) | (exact absurd rfl (hnl _ _)) | skip
          exact .inr ⟨t, _, _, rfl, rfl, hrep⟩
    split at h
    · cases h
    · cases h
    · rename_i k l hgl
      cases h
      rw [hgl] at hrep
      exact ⟨rfl, .inl ⟨rfl, fun ℓ => hrep.copy ℓ⟩⟩
    · rename_i v h1 h2 h3
      refine key _ rfl ?_ (fun k l e => h3 k l e) h
      generalize σ.get t = c at h1 h2
      cases c <;> first | rfl | (exact absurd rfl (h1 _)) | (exact absurd rfl (h2 _ _))
  | cell t ty =>
    simp only [resOne] at h
    split at h
    · rename_i cs td hcs htd
      obtain ⟨vs, e, hO, hw, hs, hh, hc, hat⟩ := box_rep R hcs
      obtain ⟨v, hv, hfree, hrep⟩ := load_run hT htd R (A := .slot t 0 cs) (b := G.β (.s t)) (off := 0) ⟨hcs, rfl⟩ h
      exact ⟨v, by simp [resAct, hat, asAddr, hv], AV.free_isLocal hfree, .inl ⟨hfree, hrep⟩⟩
    · rename_i i off td hcs htd
      split at h
      · rename_i cs hob
        have hsl := R.slots t
        rw [hcs] at hsl
        generalize hat : a.tmps.getD t Go.undef = v0 at hsl
        cases hsl with | ptr _ _ _ hi =>
        obtain ⟨v, hv, hfree, hrep⟩ := load_run hT htd R (A := .obj i off) (b := G.β (.o i)) (off := off) ⟨hi, rfl⟩ ⟨_, cs, hob, rfl, h⟩
        exact ⟨v, by simp [resAct, hat, asAddr, hv], AV.free_isLocal hfree, .inl ⟨hfree, hrep⟩⟩
      · cases h
    · cases h

theorem results_eq (fn : Func) (tmps : Array Value) : results fn tmps = (do
    let vs ← fn.results.mapM (resAct tmps)
    pure (if h : vs.size = 1 then vs[0] else .tuple vs)) := by
  unfold results resAct
  rfl

theorem resL_ok {P : Program} {T : Types} (hT : TOk P T) {G : Gh} {σ : St} {a : Act} {w : World} (R : Rel G σ a w) : ∀ (l : List ResultVar) (avs : List AV), l.mapM (resOne T σ false) = some avs →
    ∃ vs : List Value, (l.mapM (resAct a.tmps)).run P w = .ok vs w ∧ vs.length = l.length ∧ avs.length = l.length ∧ (∀ c ∈ avs, c.isLocal = false) ∧ ∀ (i : Nat) (hi : i < avs.length), RepV G w .no avs[i] (vs.getD i Go.undef)
  | [], avs, h => by simp at h; subst h; exact ⟨[], by simp, rfl, rfl, fun c hc => by simp at hc, fun i hi => by simp at hi⟩
  | x :: r, avs, h => by
    simp only [List.mapM_cons, Option.bind_eq_bind, Option.bind_eq_some_iff, Option.pure_def, Option.some.injEq] at h
    obtain ⟨av, hav, l', hl', rfl⟩ := h
    obtain ⟨vs, h1, h2, h3, h4, h5⟩ := resL_ok hT R r l' hl'
    obtain ⟨v, e1, e2, e3⟩ := resOne_ok hT R hav
    refine ⟨v :: vs, by simp [List.mapM_cons, e1, h1], by simp [h2], by simp [h3], ?_, fun i hi => ?_⟩
    · intro c hc
      rcases List.mem_cons.1 hc with rfl | hc
      · exact e2
      · exact h4 c hc
    · cases i with
      | zero =>
        rcases e3 with ⟨_, e3⟩ | ⟨_, _, _, e, _⟩
        · simpa using e3 .no
        · cases e
      | succ i => simpa using h5 i (by simpa using hi)

theorem ACall.enterT {P : Program} {T : Types} (hT : TOk P T) {f : FuncId} {fn : Func} {c : Code} {args : List AV} {H H' : List Obj} {r : AV} (hf : P.funcs[f]? = some fn) (hb : fn.body = some c) (hname : fn.name ≠ "runtime.NumGoroutine")
    (hn : args.length ≤ fn.ntmps) (hfr : args.all AV.free = true) (hrl : r.isLocal = false) (hri : r.inb H'.length = true) (hin : objsInb H'.length H' = true) (hHH : H.length ≤ H'.length)
    (h : AWpT P H.length c (FnPost T fn H.length r H') { env := envOf 0 args, heap := H, n := fn.ntmps }) : ACall P f args H r H' := by
  refine ⟨by simp [callable, hf, hb, hname], hrl, hri, hin, hHH, ?_⟩
  intro n G w vs hvs hrep RH hO
  have hfr' : ∀ c ∈ args, c.free = true := by simpa using hfr
  refine callsIn_of_wp_marks hf hb trivial ?_ rfl
  have hsz : (vs ++ Array.replicate (fn.ntmps - vs.size) Go.undef).size = fn.ntmps := by simp; omega
  have R : Rel G { env := envOf 0 args, heap := H, n := fn.ntmps } { tmps := vs ++ Array.replicate (fn.ntmps - vs.size) Go.undef, defers := [] } w := by
    refine ⟨RH, hsz, fun t => ?_, fun t r off ht => ?_, ⟨by simp, fun d hd => by simp at hd⟩⟩
    · simp only [St.get, eget_envOf]
      split
      · rename_i ht
        simp at ht
        have := (hrep t (by omega)).anywhere (hfr' _ (List.getElem_mem (by omega))) (.s t)
        simpa [List.getD, show t < args.length by omega, Array.getD_eq_getD_getElem?, Array.getElem?_append_left (show t < vs.size by omega)] using this
      · exact .undef _ _
    · simp only [St.get, eget_envOf] at ht
      split at ht
      · rename_i hlt
        simp at hlt
        have : args[t]'(by omega) ∈ args := List.getElem_mem _
        have h2 := hfr' _ this
        simp [List.getD, show t < args.length by omega] at ht
        rw [ht] at h2; simp [AV.free] at h2
      · cases ht
  refine wpIn_mono (h n G _ w (by rw [RH.nh]; exact Nat.le_refl _) R) ?_
  rintro e a' w' ⟨σ', G', R', hE, hm, hq⟩
  -- what is asked at the end
  have fin : ∀ (hq : resAV T σ' fn.results.toList = some r ∧ r.inb H'.length = true ∧ objsInb H'.length H' = true ∧ H.length ≤ H'.length ∧ ∃ junk, σ'.heap = H' ++ junk),
      LeavesInM (Wd none) n P fn a'.tmps (fun e w' => ∃ v G', e = .returned v ∧ RepV G' w' .ret r v ∧ RelH G' H' w' ∧ Ext H.length G w G' w') a'.defers .returning w' := by
    rintro ⟨hres, _, _, _, junk, hjunk⟩
    refine leaves_marks (G := G') _ _ R'.df ?_
    rintro wf ⟨hfs, hfb, hfio⟩
    have hpr : Pres G' G' w' wf (fun ℓ => ℓ ≠ .df) := ⟨KLe.refl _, fun b ℓ f hℓ hO => ⟨hO, hfb b (fun hf' => by rw [hO] at hf'; simp at hf'; exact hℓ hf'.1)⟩, fun _ _ => rfl, Nat.le_refl _⟩
    have hkept : ∀ x v, G'.K x = some v → wf.cell? x = some v := by
      intro x v hx
      have hc := R'.h.kept x v hx
      have hne : G'.O x.block ≠ some (.df, 0) := by
        intro hO
        have hsp : x.spot = none := by
          unfold World.cell? at hc
          split at hc
          · split at hc
            · cases hc
            · rename_i hsp; simpa using hsp
          · cases hc
        have := (R'.h.disj _ _ _ hO).2 x.off (Nat.zero_le _)
        obtain ⟨xb, xo, xs⟩ := x
        simp at hsp; subst hsp
        rw [this] at hx; cases hx
      unfold World.cell? at *
      rwa [hfb _ hne]
    have R2 : Rel G' σ' { tmps := a'.tmps, defers := [] } wf := by
      refine ⟨⟨R'.h.sane, R'.h.nh, fun i ob hob => (R'.h.objs i ob hob).pres R'.h.sane (by rw [← R'.h.nh]; exact (List.getElem?_eq_some_iff.1 hob).1) hpr (by simp) (by simp), hkept, fun b ℓ f hO => by rw [hfs]; exact R'.h.disj b ℓ f hO⟩, R'.size,
        fun t => (R'.slots t).pres R'.h.sane hpr (by simp) (fun _ _ _ => rfl) (fun _ _ _ => ⟨rfl, by simp⟩), R'.places, ⟨by simp, fun d hd => by simp at hd⟩⟩
    have hE2 : Ext H.length G w G' wf := by
      refine ⟨hE.K, hE.new, fun b hb hO' => ?_, by rw [hfs]; exact hE.size, hE.β, hfio.1.trans hE.io.1, hfio.2.1.trans hE.io.2.1, fun a => (hfio.2.2 a).trans (hE.io.2.2 a)⟩
      obtain ⟨h1, h2⟩ := hE.others b hb hO'
      exact ⟨(hfb b (fun hf => by rw [h2] at hf; cases hf)).trans h1, h2⟩
    -- to fewer objects
    have cutG : ∀ (G2 : Gh), RelH G2 σ'.heap wf → H'.length ≤ G2.nh → Ext H.length G w G2 wf → RelH { G2 with nh := H'.length } H' wf ∧ Ext H.length G w { G2 with nh := H'.length } wf ∧
        ∀ ℓ v, RepV G2 wf ℓ r v → RepV { G2 with nh := H'.length } wf ℓ r v := by
      intro G2 RH2 hle hEE
      have hsub : Sub G2 { G2 with nh := H'.length } wf wf (fun _ => True) H'.length := ⟨KLe.refl _, fun b ℓ f _ hO => ⟨hO, rfl⟩, fun _ _ => rfl, Nat.le_refl _⟩
      refine ⟨⟨⟨RH2.sane.no⟩, rfl, fun i ob hob => ?_, RH2.kept, RH2.disj⟩, ⟨hEE.K, hEE.new, hEE.others, hEE.size, hEE.β, hEE.io⟩, fun ℓ v hv => hv.sub RH2.sane hsub trivial hri hrl⟩
      have hi : i < H'.length := (List.getElem?_eq_some_iff.1 hob).1
      exact (RH2.objs i ob (by rw [hjunk, List.getElem?_append_left hi]; exact hob)).sub RH2.sane hi hsub trivial (fun _ => trivial) (objsInb_get hin i ob hob)
    have hle : H'.length ≤ G'.nh := by rw [← R'.h.nh, hjunk]; simp
    rw [results_eq]
    simp only [resAV] at hres
    split at hres
    · rename_i x hx
      obtain ⟨v, h1, h2, h3⟩ := resOne_ok hT R2 hres
      have hrun : (do let vs ← fn.results.mapM (resAct a'.tmps); pure (if h : vs.size = 1 then vs[0] else Value.tuple vs) : Sem Value).run P wf = .ok v wf := by
        have : fn.results = #[x] := by cases hfr2 : fn.results; simp_all
        rw [this]
        simp [h1]
      rcases h3 with ⟨hfree, h3⟩ | ⟨t, k, l, _, rfl, h3⟩
      · obtain ⟨k1, k2, k3⟩ := cutG G' R2.h hle hE2
        exact ⟨v, hrun, v, _, rfl, k3 _ _ (h3 .ret), k1, k2⟩
      · cases h3 with | own _ _ _ _ hr ht =>
        have hmv := G'.move_pres wf (.s t) .ret
        have RHm : RelH (G'.move (.s t) .ret) σ'.heap wf := R2.h.move _ _ (by simp [Loc.root]) (fun i ob hob => (R2.h.objs i ob hob).pres R2.h.sane (by rw [← R2.h.nh]; exact (List.getElem?_eq_some_iff.1 hob).1) hmv (by simp) (by simp))
        obtain ⟨k1, k2, k3⟩ := cutG (G'.move (.s t) .ret) RHm hle (hE2.trans (Ext.move _ _ _ _ _))
        exact ⟨v, hrun, v, _, rfl, k3 _ _ (.own _ _ _ _ hr ht.move), k1, k2⟩
    · rename_i l hl
      simp at hres
      obtain ⟨avs, hav, rfl⟩ := hres
      obtain ⟨vs, h1, h2, h3, h4, h5⟩ := resL_ok hT R2 _ _ hav
      obtain ⟨k1, k2, k3⟩ := cutG G' R2.h hle hE2
      have hrun : (do let vs ← fn.results.mapM (resAct a'.tmps); pure (if h : vs.size = 1 then vs[0] else Value.tuple vs) : Sem Value).run P wf = .ok (.tuple vs.toArray) wf := by
        have hne : vs.length ≠ 1 := by
          intro h; rw [h2] at h
          obtain ⟨x, hx⟩ := List.length_eq_one_iff.1 h
          exact hl x hx
        simp [Array.mapM_eq_mapM_toList, h1, hne]
      exact ⟨.tuple vs.toArray, hrun, _, _, rfl, k3 _ _ (.tuple _ _ _ (by simp [h2, h3]) (fun i hi => by simpa [List.getD, Array.getD_eq_getD_getElem?] using h5 i hi) h4), k1, k2⟩
  cases e with
  | normal => exact fin hq
  | ret => exact fin hq
  | _ => exact hq.elim
theorem ACall.enter {P : Program} {T : Types} (hT : TOk P T) {f : FuncId} {fn : Func} {c : Code} {args : List AV} {H H' : List Obj} {r : AV} (hf : P.funcs[f]? = some fn) (hb : fn.body = some c) (hname : fn.name ≠ "runtime.NumGoroutine")
    (hn : args.length ≤ fn.ntmps) (hfr : args.all AV.free = true) (hrl : r.isLocal = false) (hri : r.inb H'.length = true) (hin : objsInb H'.length H' = true) (hHH : H.length ≤ H'.length)
    (h : AWp P H.length c (FnPost T fn H.length r H') { env := envOf 0 args, heap := H, n := fn.ntmps }) : ACall P f args H r H' :=
  ACall.enterT hT hf hb hname hn hfr hrl hri hin hHH (AWpT.of h)
end Go.Am

/- Running over operations and code: what a proof over a function's text uses. -/
set_option linter.unusedSimpArgs false
set_option linter.unusedSectionVars false
namespace Go.Am
open Go

/-- Which loop's round an operation asks for, and with what. -/
def callY (T : Types) (σ : St) (o : Oper) : Option (Nat × List AV) :=
  match o.op with
  | .call { callee := .value (.tmp t), args, argTypes } =>
    match σ.get t, ((args.toList.zip argTypes.toList).mapM fun p => opv T σ.get p.2 p.1) with
    | .yield l, some vs => if args.size = argTypes.size then some (l, vs.map AV.copy) else none
    | _, _ => none
  | _ => none

/-- How far a list of operations can be evaluated. -/
inductive Out where
  | done (σ : St)
  | yield (l : Nat) (args : List AV) (o : Oper) (rest : List Oper) (σ : St)
  | call (f : FuncId) (args : List AV) (o : Oper) (rest : List Oper) (σ : St)
  | stuck

def runP (A : Ar) (T : Types) (an : Ann) (all : List Oper) : List Oper → St → Out
  | [], σ => .done σ
  | o :: os, σ =>
    match wantA all σ o with
    | some true =>
      match callOf T σ o with
      | some (f, args) => .call f args o os σ
      | none =>
        match callY T σ o with
        | some (l, args) => .yield l args o os σ
        | none =>
          match evCore A T an σ.n σ.get σ.heap o with
          | some (ss, h) => runP A T an all os (σ.upd ss h)
          | none => .stuck
    | some false =>
      match o.dst with
      | some d => if decide (d < σ.n) && !(σ.get d).isBox then runP A T an all os (σ.upd [(d, .tuple [])] none) else .stuck
      | none => runP A T an all os σ
    | none => .stuck

theorem upd_len {A : Ar} {T : Types} {an : Ann} {σ : St} {o : Oper} {ss : Sets} {h : Option (List Obj)} (he : evCore A T an σ.n σ.get σ.heap o = some (ss, h)) : σ.heap.length ≤ (σ.upd ss h).heap.length := by
  cases h with
  | none => exact Nat.le_refl _
  | some H' => exact evCore_len he

section
variable {P : Program} {T : Types} {m : Nat} {Q : Exit → St → Prop} {ops : Array Oper} {an : Ann}

/-- What evaluation has come to, taken up by a proof. -/
def Resume (P : Program) (m : Nat) (ops : Array Oper) (T : Types) (Q : Exit → St → Prop) : Out → Prop
  | .done σ => Q .normal σ
  | .call f args o rest σ => callOf T σ o = some (f, args) → wantA ops.toList σ o = some true → AOps P m ops (o :: rest) Q σ
  | .yield l args o rest σ => callY T σ o = some (l, args) → wantA ops.toList σ o = some true → AOps P m ops (o :: rest) Q σ
  | .stuck => False

theorem AOps.run (hT : TOk P T) : ∀ (l : List Oper) (σ : St), m ≤ σ.heap.length → Resume P m ops T (fun e σ' => m ≤ σ'.heap.length → Q e σ') (runP Ar.std T an ops.toList l σ) → AOps P m ops l Q σ
  | [], σ, hm, h => AOps.nil (h hm)
  | o :: os, σ, hm, h => by
    unfold runP at h
    cases hw : wantA ops.toList σ o with
    | none => simp [hw, Resume] at h
    | some b =>
      cases b with
      | true =>
        simp only [hw] at h
        cases hc : callOf T σ o with
        | some p =>
          obtain ⟨f, args⟩ := p
          simp only [hc] at h
          have := h hc hw
          intro r n G a w Q' hm' R hQ
          exact this r n G a w Q' hm' R (fun e a' w' hp => by
            obtain ⟨σ', G', R', hE, hm'', hq⟩ := hp
            exact hQ e a' w' ⟨σ', G', R', hE, hm'', hq (by rw [R'.h.nh]; exact hm'')⟩)
        | none =>
          simp only [hc] at h
          cases hy : callY T σ o with
          | some p =>
            obtain ⟨l, args⟩ := p
            simp only [hy] at h
            have := h hy hw
            intro r n G a w Q' hm' R hQ
            exact this r n G a w Q' hm' R (fun e a' w' hp => by
              obtain ⟨σ', G', R', hE, hm'', hq⟩ := hp
              exact hQ e a' w' ⟨σ', G', R', hE, hm'', hq (by rw [R'.h.nh]; exact hm'')⟩)
          | none =>
          simp only [hy] at h
          cases he : evCore Ar.std T an σ.n σ.get σ.heap o with
          | none => simp [he, Resume] at h
          | some q =>
            obtain ⟨ss, h'⟩ := q
            simp only [he] at h
            have hlen := upd_len he
            exact AOps.step hw (evCore_ok hT (less_get σ) (fun _ _ => rfl) (fun _ _ h => h) (fun _ => rfl) he) (by omega) (AOps.run hT os _ (by omega) h)
      | false =>
        simp only [hw] at h
        cases hd : o.dst with
        | none => simp only [hd] at h; exact AOps.skip0 hw hd (AOps.run hT os σ hm h)
        | some d =>
          simp only [hd] at h
          split at h
          · rename_i hc
            simp at hc
            exact AOps.skip hw hd hc.1 hc.2 (AOps.run hT os _ hm h)
          · exact h.elim

theorem AOps.done (hT : TOk P T) {l : List Oper} {σ σ' : St} (h : ∀ A : Ar, A = Ar.std → runP A T an ops.toList l σ = .done σ') (hm : m ≤ σ.heap.length) (hq : Q .normal σ') : AOps P m ops l Q σ :=
  AOps.run (an := an) hT l σ hm (by rw [h _ rfl]; exact fun _ => hq)
end

/-! ### Forgetting -/
def AV.noPlace : AV → AV
  | .place .. => .undef
  | v => v
/-- Only these slots are kept (and no places). -/
def keepE (e : List (Nat × AV)) : List Nat → List (Nat × AV)
  | [] => []
  | t :: r => (t, (eget e t).noPlace) :: keepE e r
def St.keep (σ : St) (ts : List Nat) : St := { σ with env := keepE σ.env ts }

theorem eget_keepE (e : List (Nat × AV)) : ∀ (ts : List Nat) (t : Nat), eget (keepE e ts) t = (eget e t).noPlace ∨ eget (keepE e ts) t = .undef
  | [], t => .inr rfl
  | s :: r, t => by
    simp only [keepE, eget]
    split
    · rename_i h; subst h; exact .inl rfl
    · exact eget_keepE e r t

theorem Rel.keep {G : Gh} {σ : St} {a : Act} {w : World} (R : Rel G σ a w) (ts : List Nat) : Rel G (σ.keep ts) a w := by
  refine ⟨R.h, R.size, fun t => ?_, fun t r off ht => ?_, R.df⟩
  · rcases eget_keepE σ.env ts t with h | h
    · simp only [St.keep, St.get, h]
      have := R.slots t
      simp only [St.get] at this
      generalize eget σ.env t = c at this
      cases c <;> first | exact this | exact .undef _ _
    · simp only [St.keep, St.get, h]; exact .undef _ _
  · simp only [St.keep, St.get] at ht
    rcases eget_keepE σ.env ts t with h | h
    · rw [h] at ht
      generalize eget σ.env t = c at ht
      cases c <;> simp [AV.noPlace] at ht
    · rw [h] at ht; cases ht

section
variable {P : Program} {T : Types} {m : Nat} {Q : Exit → St → Prop} {σ : St}
theorem AWp.keep (ts : List Nat) {c : Code} (h : AWp P m c Q (σ.keep ts)) : AWp P m c Q σ := fun r n G a w hm R => h r n G a w hm (R.keep ts)

/-- Fewer objects: those from k on are let go of; nothing that stays refers to them. -/
def envInb (k : Nat) : List (Nat × AV) → Bool
  | [] => true
  | (_, v) :: r => v.inb k && envInb k r
def St.drop (σ : St) (k : Nat) : St := { σ with heap := σ.heap.take k }
end
end Go.Am
