/- Own text: RL64. -/
import Derived.Test.YtcnplegmmmobcaaRL36
import Derived.Test.YtcnplegmmmobcaaGenp0
set_option maxRecDepth 100000
set_option linter.unusedVariables false
set_option linter.unusedSimpArgs false
set_option linter.unusedSectionVars false
namespace Go.Am
open Go
end Go.Am

set_option maxRecDepth 100000
set_option linter.unusedVariables false
set_option linter.unusedSimpArgs false
set_option linter.unusedSectionVars false
namespace Go.Am
open Go
end Go.Am

set_option maxRecDepth 100000
set_option linter.unusedVariables false
set_option linter.unusedSimpArgs false
set_option linter.unusedSectionVars false
namespace Go.Am
open Go
def part (k : Nat) (f : Nat → Nat) (x : Nat) : Nat := if x < k then f x else 0
end Go.Am

set_option maxRecDepth 100000
set_option linter.unusedVariables false
set_option linter.unusedSimpArgs false
set_option linter.unusedSectionVars false
namespace Go.Am
open Go
def sizeF (f : Nat → Nat) : Nat := card 6 (f 0) + card 6 (f 1) + card 6 (f 2) + card 6 (f 3) + card 6 (f 4) + card 6 (f 5)
section
variable (K : (Nat → Nat) → Nat → Nat → Bool)
variable {K}
structure Ch (s t : Bool × (Nat → Nat)) : Prop where
  no : t.1 = false → s.1 = false ∧ t.2 = s.2
  yes : t.1 = true → s.1 = true ∨ sizeF t.2 < sizeF s.2
  le : sizeF t.2 ≤ sizeF s.2
theorem Ch.refl (s : Bool × (Nat → Nat)) : Ch s s := ⟨fun h => ⟨h, rfl⟩, fun h => .inl h, Nat.le_refl _⟩
theorem Ch.trans {s t u : Bool × (Nat → Nat)} (h : Ch s t) (h' : Ch t u) : Ch s u := by
  refine ⟨fun hu => ?_, fun hu => ?_, Nat.le_trans h'.le h.le⟩
  · obtain ⟨a, b⟩ := h'.no hu
    obtain ⟨c, d⟩ := h.no a
    exact ⟨c, b.trans d⟩
  · rcases h'.yes hu with a | a
    · rcases h.yes a with b | b
      · exact .inl b
      · exact .inr (Nat.lt_of_le_of_lt h'.le b)
    · exact .inr (Nat.lt_of_lt_of_le a h.le)
def subF (p f : Nat → Nat) : Prop := ∀ x, Wi (p x) (f x)
end
end Go.Am

set_option maxRecDepth 100000
set_option linter.unusedVariables false
set_option linter.unusedSimpArgs false
set_option linter.unusedSectionVars false
namespace Go.Am
open Go
def badK (m' : Nat) (l' : List St3) (f : Nat → Nat) (x y : Nat) (z : St3) : Bool := decide (z.1 = (x : Int)) && decide (comesN m' l' (2 ^ y) z.2.1 &&& f z.2.2.toNat = 0)
def keepN (l : List St3) (m' : Nat) (l' : List St3) (f : Nat → Nat) (x y : Nat) : Bool := !l.any (badK m' l' f x y)
end Go.Am

set_option maxRecDepth 100000
set_option linter.unusedVariables false
set_option linter.unusedSimpArgs false
set_option linter.unusedSectionVars false
namespace Go.Am
open Go
section
variable {m m' : Nat} {l l' : List St3}
end
end Go.Am

set_option maxRecDepth 100000
set_option linter.unusedVariables false
set_option linter.unusedSimpArgs false
set_option linter.unusedSectionVars false
namespace Go.Am
open Go
section
variable {m m' : Nat} {l l' : List St3}
end
end Go.Am

set_option maxRecDepth 100000
set_option linter.unusedVariables false
set_option linter.unusedSimpArgs false
set_option linter.unusedSectionVars false
namespace Go.Am
open Go
section
variable {m m' : Nat} {l l' : List St3} (S : Sys m l) (S' : Sys m' l')
include S S'
end
end Go.Am

set_option maxRecDepth 100000
set_option linter.unusedVariables false
set_option linter.unusedSimpArgs false
set_option linter.unusedSectionVars false
namespace Go.Am
open Go
def mem2 (f : Nat → Nat) (x y : Nat) : Prop := (f x).testBit y = true
theorem subF_mem {f g : Nat → Nat} (h : subF f g) {x y : Nat} (hm : mem2 f x y) : mem2 g x y := (h x).test hm
theorem subF.refl (f : Nat → Nat) : subF f f := fun x => Wi.refl _
theorem subF.trans {f g h : Nat → Nat} (a : subF f g) (b : subF g h) : subF f h := fun x => (a x).trans (b x)
section
variable (m' : Nat) (l' : List St3) (r : Nat → Nat)
def nx (y : Nat) (z : St3) : Nat := Lib.trailingZeros8 (r z.2.2.toNat &&& comesN m' l' (2 ^ y) z.2.1)
def Clo (l : List St3) (h : Nat → Nat) : Prop := ∀ (x y : Nat) (z : St3), z ∈ l → z.1 = (x : Int) → mem2 h x y → mem2 h z.2.2.toNat (nx m' l' r y z)
structure Least (l : List St3) (g : Nat → Nat) : Prop where
  clo : Clo m' l' r l g
  fst : mem2 g 0 0
  min : ∀ h, Clo m' l' r l h → mem2 h 0 0 → subF g h
end
section
variable {m m' : Nat} {l l' : List St3}
end
end Go.Am

set_option maxRecDepth 100000
set_option linter.unusedVariables false
set_option linter.unusedSimpArgs false
set_option linter.unusedSectionVars false
namespace Go.Am
open Go
section
variable {m m' : Nat} {l l' : List St3}
end
end Go.Am

set_option maxRecDepth 100000
set_option linter.unusedVariables false
set_option linter.unusedSimpArgs false
set_option linter.unusedSectionVars false
namespace Go.Am
open Go
def Suc (l : List St3) (m' : Nat) (l' : List St3) (r s : Nat → Nat) (a b : Nat) : Prop := ∀ z : St3, z ∈ l → z.1 = (a : Int) → mem2 s z.2.2.toNat (nx m' l' r b z)
theorem Suc.mono {l : List St3} {m' : Nat} {l' : List St3} {r s t : Nat → Nat} {a b : Nat} (h : Suc l m' l' r s a b) (hs : subF s t) : Suc l m' l' r t a b := fun z hz hx => subF_mem hs (h z hz hx)
structure Ex (l : List St3) (m' : Nat) (l' : List St3) (r o s : Nat → Nat) : Prop where
  sub : subF o s
  clo : ∀ a b, mem2 s a b → mem2 o a b ∨ Suc l m' l' r s a b
  min : ∀ h, Clo m' l' r l h → subF o h → subF s h
  lt : ∀ i, s i < 2 ^ m'
structure Dfs (l : List St3) (m' : Nat) (l' : List St3) (r : Nat → Nat) (x y : Nat) (o s : Nat → Nat) : Prop where
  sub : subF o s
  has : mem2 s x y
  clo : ∀ a b, mem2 s a b → mem2 o a b ∨ Suc l m' l' r s a b
  min : ∀ h, Clo m' l' r l h → subF o h → mem2 h x y → subF s h
  lt : ∀ i, s i < 2 ^ m'
section
variable {m m' : Nat} {l l' : List St3}
end
end Go.Am

set_option maxRecDepth 100000
set_option linter.unusedVariables false
set_option linter.unusedSimpArgs false
set_option linter.unusedSectionVars false
namespace Go.Am
open Go
end Go.Am

set_option maxRecDepth 100000
set_option linter.unusedVariables false
set_option linter.unusedSimpArgs false
set_option linter.unusedSectionVars false
namespace Go.Am
open Go
end Go.Am

set_option maxRecDepth 100000
set_option linter.unusedVariables false
set_option linter.unusedSimpArgs false
set_option linter.unusedSectionVars false
namespace Go.Am
open Go
def Cov (g : Nat → Nat) (s t : Nat) : Prop := ∀ y, s.testBit y = true → ∃ w, t.testBit w = true ∧ mem2 g y w
theorem Cov.mono {g : Nat → Nat} {s t u : Nat} (h : Cov g s t) (hu : Wi t u) : Cov g s u := fun y hy => by
  obtain ⟨w, h1, h2⟩ := h y hy
  exact ⟨w, hu.test h1, h2⟩
theorem Cov.or {g : Nat → Nat} {a b t : Nat} (h : Cov g a t) (h' : Cov g b t) : Cov g (a ||| b) t := fun y hy => by
  rw [Nat.testBit_or, Bool.or_eq_true] at hy
  rcases hy with h1 | h1
  · exact h y h1
  · exact h' y h1
section
variable {m m' : Nat} {l l' : List St3} (S : Sys m l) (S' : Sys m' l') {g : Nat → Nat} (hg : ∀ x y, mem2 g x y → keepN l m' l' g x y = true)
include S S' hg
end
end Go.Am

set_option maxRecDepth 100000
set_option linter.unusedVariables false
set_option linter.unusedSimpArgs false
set_option linter.unusedSectionVars false
namespace Go.Am
open Go
end Go.Am

set_option maxRecDepth 100000
set_option linter.unusedVariables false
set_option linter.unusedSimpArgs false
set_option linter.unusedSectionVars false
namespace Go.Am
open Go
section
variable {m m' : Nat} {l l' : List St3} (S : Sys m l) (S' : Sys m' l')
end
section
variable {m : Nat} {l : List St3} (S : Sys m l) (hp : plainD l = true)
include hp
end
end Go.Am

set_option maxRecDepth 100000
set_option linter.unusedVariables false
set_option linter.unusedSimpArgs false
set_option linter.unusedSectionVars false
namespace Go.Am
open Go
end Go.Am

set_option maxRecDepth 100000
set_option linter.unusedVariables false
set_option linter.unusedSimpArgs false
set_option linter.unusedSectionVars false
namespace Go.Am
open Go
def Dn (i a : Nat) (i' : Nat) (lab : Int) : Prop := i' < i ∨ (i' = i ∧ lab ≤ a)
structure SI (F : Nat → Int → Nat) (i a : Nat) (s : SeeS) : Prop where
  nd : s.1.Nodup
  ne : ∀ x ∈ s.1, x ≠ 0
  st : ∀ z ∈ s.2, ∃ (i' j : Nat) (lab : Int), z = ((i' : Int), lab, (j : Int)) ∧ i' < s.1.length ∧ j < s.1.length ∧ (1 ≤ lab ∧ lab ≤ 3) ∧ s.1[j]? = some (F (s.1.getD i' 0) lab) ∧ Dn i a i' lab
  cmp : ∀ (i' : Nat) (lab : Int), Dn i a i' lab → i' < s.1.length → 1 ≤ lab → lab ≤ 3 → F (s.1.getD i' 0) lab ≠ 0 → ∃ j : Nat, j < s.1.length ∧ ((i' : Int), lab, (j : Int)) ∈ s.2
  un : s.2.Pairwise fun y z => ¬ (y.1 = z.1 ∧ y.2.1 = z.2.1)
theorem getD_app {l : List Nat} {i : Nat} (h : i < l.length) (m : List Nat) : (l ++ m).getD i 0 = l.getD i 0 := by
  rw [List.getD_eq_getElem?_getD, List.getD_eq_getElem?_getD, List.getElem?_append_left h]
theorem SI.step {n : Int} {l : List St3} {i a : Nat} {s : SeeS} (h : SI (comesN n l) i a s) (hi : i < s.1.length) (ha : a < 3) : SI (comesN n l) i (a + 1) (seeL n l i s ((a + 1 : Nat) : Int)) := by
  have hD : ∀ i' (lab : Int), Dn i (a + 1) i' lab ↔ Dn i a i' lab ∨ (i' = i ∧ lab = ((a + 1 : Nat) : Int)) := fun i' lab => by unfold Dn; omega
  
  have grow : ∀ (m : List Nat) (j : Nat), (s.1 ++ m).Nodup → (∀ x ∈ m, x ≠ 0) → j < (s.1 ++ m).length → (s.1 ++ m)[j]? = some (comesN n l (s.1.getD i 0) ((a + 1 : Nat) : Int)) →
      SI (comesN n l) i (a + 1) (s.1 ++ m, s.2 ++ [((i : Int), ((a + 1 : Nat) : Int), (j : Int))]) := fun m j hnd hne hj hx => by
    have hlen : (s.1 ++ m).length = s.1.length + m.length := List.length_append
    refine ⟨hnd, fun x hx => ?_, fun z hz => ?_, fun i' lab hd hi' h1 h2 h3 => ?_, ?_⟩
    · rcases List.mem_append.1 hx with hx | hx
      · exact h.ne x hx
      · exact hne x hx
    · rcases List.mem_append.1 hz with hz | hz
      · obtain ⟨i', j', lab, rfl, b1, b2, b3, b4, b5⟩ := h.st z hz
        refine ⟨i', j', lab, rfl, ?_, ?_, b3, ?_, (hD _ _).2 (.inl b5)⟩
        · show i' < (s.1 ++ m).length; omega
        · show j' < (s.1 ++ m).length; omega
        · show (s.1 ++ m)[j']? = some (comesN n l ((s.1 ++ m).getD i' 0) lab)
          rw [getD_app b1, List.getElem?_append_left b2]; exact b4
      · rw [List.mem_singleton] at hz; subst hz
        refine ⟨i, j, _, rfl, ?_, hj, by omega, ?_, (hD _ _).2 (.inr ⟨rfl, rfl⟩)⟩
        · show i < (s.1 ++ m).length; omega
        · show (s.1 ++ m)[j]? = some (comesN n l ((s.1 ++ m).getD i 0) _)
          rw [getD_app hi]; exact hx
    · rcases (hD _ _).1 hd with hd | ⟨rfl, rfl⟩
      · have hi2 : i' < s.1.length := by
          rcases hd with hd | hd
          · omega
          · omega
        have h3' : comesN n l (s.1.getD i' 0) lab ≠ 0 := by rw [← getD_app hi2 m]; exact h3
        obtain ⟨j', c1, c2⟩ := h.cmp i' lab hd hi2 h1 h2 h3'
        exact ⟨j', by show j' < (s.1 ++ m).length; omega, List.mem_append.2 (.inl c2)⟩
      · exact ⟨j, hj, List.mem_append.2 (.inr (List.mem_singleton.2 rfl))⟩
    · refine List.pairwise_append.2 ⟨h.un, List.pairwise_singleton _ _, fun y hy z hz => ?_⟩
      rw [List.mem_singleton] at hz; subst hz
      obtain ⟨i', j', lab, rfl, _, _, _, _, b5⟩ := h.st y hy
      rintro ⟨e1, e2⟩
      simp only at e1 e2
      rcases b5 with b5 | b5
      · omega
      · omega
  unfold seeL
  cases h1 : decide (comesN n l (s.1.getD i 0) ((a + 1 : Nat) : Int) = 0) with
  | true =>
    rw [cond_true]
    refine ⟨h.nd, h.ne, fun z hz => ?_, fun i' lab hd hi' c1 c2 c3 => ?_, h.un⟩
    · obtain ⟨i', j', lab, e, b1, b2, b3, b4, b5⟩ := h.st z hz
      exact ⟨i', j', lab, e, b1, b2, b3, b4, (hD _ _).2 (.inl b5)⟩
    · rcases (hD _ _).1 hd with hd | ⟨rfl, rfl⟩
      · exact h.cmp i' lab hd hi' c1 c2 c3
      · exact absurd (of_decide_eq_true h1) c3
  | false =>
    rw [cond_false]
    have hx0 := of_decide_eq_false h1
    cases hf : s.1.findIdx? (fun y => decide (comesN n l (s.1.getD i 0) ((a + 1 : Nat) : Int) = y)) with
    | some k =>
      obtain ⟨hk, hp, _⟩ := List.findIdx?_eq_some_iff_getElem.1 hf
      have hk2 : s.1[k]? = some (comesN n l (s.1.getD i 0) ((a + 1 : Nat) : Int)) := by rw [List.getElem?_eq_getElem hk, of_decide_eq_true hp]
      have := grow [] k (by rw [List.append_nil]; exact h.nd) (fun x hx => by cases hx) (by rw [List.append_nil]; exact hk) (by rw [List.append_nil]; exact hk2)
      rw [List.append_nil] at this
      exact this
    | none =>
      rw [List.findIdx?_eq_none_iff] at hf
      have hn : comesN n l (s.1.getD i 0) ((a + 1 : Nat) : Int) ∉ s.1 := fun hm => by have := hf _ hm; simp at this
      refine grow [comesN n l (s.1.getD i 0) ((a + 1 : Nat) : Int)] s.1.length ?_ (fun x hx => by rw [List.mem_singleton] at hx; subst hx; exact hx0) (by simp) (by simp)
      refine List.nodup_append.2 ⟨h.nd, by simp, fun x hx y hy => ?_⟩
      rw [List.mem_singleton] at hy; subst hy
      rintro rfl; exact hn hx
theorem seeL_pre (n : Int) (l : List St3) (i : Nat) (s : SeeS) (lab : Int) : s.1 <+: (seeL n l i s lab).1 := by
  unfold seeL
  cases decide (comesN n l (s.1.getD i 0) lab = 0) with
  | true => exact List.prefix_refl _
  | false =>
    rw [cond_false]
    cases s.1.findIdx? (fun y => decide (comesN n l (s.1.getD i 0) lab = y)) with
    | none => exact List.prefix_append _ _
    | some k => exact List.prefix_refl _
theorem SI.round {n : Int} {l : List St3} {i : Nat} {s : SeeS} (h : SI (comesN n l) i 0 s) (hi : i < s.1.length) : SI (comesN n l) (i + 1) 0 (seeR n l i s) := by
  have h1 := h.step hi (by decide)
  have i1 : i < (seeL n l i s 1).1.length := Nat.lt_of_lt_of_le hi (seeL_pre n l i s 1).length_le
  have h2 := h1.step i1 (by decide)
  have i2 : i < (seeL n l i (seeL n l i s 1) 2).1.length := Nat.lt_of_lt_of_le i1 (seeL_pre n l i _ 2).length_le
  have h3 := h2.step i2 (by decide)
  have e : seeR n l i s = seeL n l i (seeL n l i (seeL n l i s ((0 + 1 : Nat) : Int)) ((0 + 1 + 1 : Nat) : Int)) ((0 + 1 + 1 + 1 : Nat) : Int) := rfl
  rw [e]
  have hD : ∀ i' (lab : Int), 1 ≤ lab → lab ≤ 3 → (Dn (i + 1) 0 i' lab ↔ Dn i 3 i' lab) := fun i' lab a b => by unfold Dn; omega
  refine ⟨h3.nd, h3.ne, fun z hz => ?_, fun i' lab hd hi' c1 c2 c3 => h3.cmp i' lab ((hD _ _ c1 c2).1 hd) hi' c1 c2 c3, h3.un⟩
  obtain ⟨i', j', lab, e, b1, b2, b3, b4, b5⟩ := h3.st z hz
  exact ⟨i', j', lab, e, b1, b2, b3, b4, (hD _ _ b3.1 b3.2).2 b5⟩
structure FinS (m : Nat) (l : List St3) (k : Nat) (L : List Nat) (st : List St3) : Prop where
  len : L.length = k
  pos : 1 ≤ k
  hd : L[0]? = some (quietN m l 1)
  nd : L.Nodup
  ne : ∀ x ∈ L, x ≠ 0
  lt : ∀ x ∈ L, x < 2 ^ m
  sp : ∀ z ∈ st, ∃ (i j : Nat) (lab : Int), z = ((i : Int), lab, (j : Int)) ∧ i < k ∧ j < k ∧ (1 ≤ lab ∧ lab ≤ 3) ∧ L[j]? = some (comesN m l (L.getD i 0) lab)
  cmp : ∀ (i : Nat) (lab : Int), i < k → 1 ≤ lab → lab ≤ 3 → comesN m l (L.getD i 0) lab ≠ 0 → ∃ j : Nat, j < k ∧ ((i : Int), lab, (j : Int)) ∈ st
  un : st.Pairwise fun y z => ¬ (y.1 = z.1 ∧ y.2.1 = z.2.1)
  cnt : st.length ≤ 3 * k
section
variable {m : Nat} {l : List St3} {k : Nat} {L : List Nat} {st : List St3} (S : Sys m l) (h : FinS m l k L st) (hk : k ≤ 6)
include h hk
end
end Go.Am

set_option maxRecDepth 100000
set_option linter.unusedVariables false
set_option linter.unusedSimpArgs false
set_option linter.unusedSectionVars false
namespace Go.Am
open Go
section
variable {m : Nat} {l : List St3} {k : Nat} {L : List Nat} {st : List St3} (h : FinS m l k L st) (hk : k ≤ 6)
include h hk
end
end Go.Am

set_option maxRecDepth 100000
set_option linter.unusedVariables false
set_option linter.unusedSimpArgs false
set_option linter.unusedSectionVars false
namespace Go.Am
open Go
def hidOne (lab : Int) (z : St3) : St3 := (z.1, bif decide (z.2.1 = lab) then 0 else z.2.1, z.2.2)
def hidStep (lab : Int) (out : List St3) (z : St3) : List St3 := bif out.contains (hidOne lab z) then out else out ++ [hidOne lab z]
def hidL (l : List St3) (lab : Int) : List St3 := l.foldl (hidStep lab) []
theorem hidF_len {lab : Int} : ∀ (l out : List St3), (l.foldl (hidStep lab) out).length ≤ out.length + l.length
  | [], out => by simp
  | z :: l, out => by
    rw [List.foldl_cons]
    have := hidF_len (lab := lab) l (hidStep lab out z)
    have h1 : (hidStep lab out z).length ≤ out.length + 1 := by unfold hidStep; cases out.contains (hidOne lab z) <;> simp
    simp only [List.length_cons]; omega
theorem hidL_len (l : List St3) (lab : Int) : (hidL l lab).length ≤ l.length := by simpa [hidL] using hidF_len (lab := lab) l []
theorem stOk_iff {m : Int} {x : St3} : stOk m x = true ↔ (0 ≤ x.1 ∧ x.1 ≤ m) ∧ (0 ≤ x.2.2 ∧ x.2.2 ≤ m) ∧ (0 ≤ x.2.1 ∧ x.2.1 ≤ 3) := by
  unfold stOk
  simp only [Bool.and_eq_true, btw_true]
theorem vSys_st {n : Int} {l : List St3} (hv : vSys n l = true) : (1 ≤ n ∧ n ≤ 6) ∧ l.length ≤ 24 ∧ l.Nodup ∧ ∀ x ∈ l, stOk (n - 1) x = true := by
  unfold vSys at hv
  simp only [Bool.and_eq_true, btw_true, decide_eq_true_eq] at hv
  obtain ⟨⟨h1, h2⟩, h3⟩ := hv
  unfold goodSys at h3
  rw [Bool.not_eq_true', List.any_eq_false] at h3
  have hat : ∀ (i : Nat) (x : St3), l[i]? = some x → stOk (n - 1) x = true ∧ x ∉ l.take i := fun i x hx => by
    have hi : i < l.length := (List.getElem?_eq_some_iff.1 hx).1
    have := h3 i (List.mem_range.2 hi)
    unfold badSt at this
    rw [hx] at this
    simpa [Bool.or_eq_true] using this
  refine ⟨h1, by omega, ?_, fun x hx => ?_⟩
  · unfold List.Nodup
    rw [List.pairwise_iff_getElem]
    intro i j hi hj hij e
    refine (hat j _ (List.getElem?_eq_getElem hj)).2 ?_
    rw [← e]
    have : l[i] = (l.take j)[i]'(by simp; omega) := by rw [List.getElem_take]
    rw [this]; exact List.getElem_mem _
  · obtain ⟨i, hi, rfl⟩ := List.getElem_of_mem hx
    exact (hat i _ (List.getElem?_eq_getElem hi)).1
theorem Wi.of {a b : Nat} (h : ∀ j, a.testBit j = true → b.testBit j = true) : Wi a b := by
  unfold Wi
  apply Nat.eq_of_testBit_eq
  intro j
  rw [Nat.testBit_or]
  cases hb : b.testBit j with
  | true => rw [Bool.or_true]
  | false =>
    cases ha : a.testBit j with
    | true => rw [h j ha] at hb; cases hb
    | false => rfl
end Go.Am

set_option maxRecDepth 100000
set_option linter.unusedVariables false
set_option linter.unusedSimpArgs false
set_option linter.unusedSectionVars false
namespace Go.Am
open Go
theorem R89_eq (out : List St3) (ho : out.length < Lg) (z : St3) : R89 Ar.std (eSt out) z.1 z.2.1 z.2.2 = some (out.contains z) := by
  have key := iter_find (step := R109L0 Ar.std (eSt out) z.1 z.2.1 z.2.2) out (fun y => decide (z = y)) (fun i => .inr (i : Int)) (.inl ()) (fun i y hy hi => by
      unfold R109L0
      try dsimp only
      rw [ltS hi, cond_true, gt_enc hy, bsome]
      try dsimp only
      rw [deq_st z y, inc hi ho]
      cases decide (z = y) <;> rfl) (by
      unfold R109L0
      try dsimp only
      rw [geS, cond_false])
  have hany : out.any (fun y => decide (z = y)) = out.contains z := by
    rw [Bool.eq_iff_iff, List.any_eq_true, List.contains_iff_mem]
    exact ⟨fun ⟨y, hy, e⟩ => by rw [of_decide_eq_true e]; exact hy, fun h => ⟨z, h, decide_eq_true rfl⟩⟩
  unfold R89 R109
  rw [key, bsome]
  have h := find_le out (fun y => decide (z = y))
  rw [hany] at h
  rw [← h]
  cases out.findIdx? (fun y => decide (z = y)) <;> rfl
def hidR (n : Int) (l : List St3) (lab : Int) : Int × List St3 × Int := bif vSys n l then (bif btw 1 lab 3 then (n, hidL l lab, 0) else (0, [], 2)) else (0, [], 50)
theorem R43L0_eq (l : List St3) (hl : l.length < 4294967295) (lab : Int) : iter (R43L0 Ar.std (eSt l) lab) ([], 0) = some (eSt (hidL l lab)) := by
  have hlg : l.length < Lg := Nat.lt_trans hl (by decide)
  have key := iter_pre (step := R43L0 Ar.std (eSt l) lab) l (fun pre => hidL pre lab) (fun s k => (eSt s, (k : Int))) (fun s => eSt s)
    (fun i z hz hi => by
      have hle : (hidL (l.take i) lab).length < 4294967295 := Nat.lt_of_le_of_lt (hidL_len _ _) (by simp; omega)
      have hsn : hidL (l.take i ++ [z]) lab = hidStep lab (hidL (l.take i) lab) z := by unfold hidL; rw [List.foldl_append]; rfl
      have hap : ap Ar.std (eSt (hidL (l.take i) lab)) [.agg [.int .i64 (hidOne lab z).1, .int .i64 (hidOne lab z).2.1, .int .i64 (hidOne lab z).2.2]] = some (eSt (hidL (l.take i) lab ++ [hidOne lab z])) := ap_enc1 rfl hle
      have hc := R89_eq (hidL (l.take i) lab) (Nat.lt_trans hle (by decide)) (hidOne lab z)
      have hsel : (bif Ar.std.zeq z.2.1 lab then some 0 else some z.2.1 : Option Int) = some (hidOne lab z).2.1 := by
        unfold hidOne
        rw [std_zeq]
        cases decide (z.2.1 = lab) <;> rfl
      unfold R43L0
      try dsimp only
      rw [ltS hi, cond_true, gt_enc hz, bsome]
      try dsimp only
      rw [hsel, bsome]
      have hc' : R89 Ar.std (eSt (hidL (l.take i) lab)) z.1 (hidOne lab z).2.1 z.2.2 = some ((hidL (l.take i) lab).contains (hidOne lab z)) := hc
      have hap' : ap Ar.std (eSt (hidL (l.take i) lab)) [.agg [.int .i64 z.1, .int .i64 (hidOne lab z).2.1, .int .i64 z.2.2]] = some (eSt (hidL (l.take i) lab ++ [hidOne lab z])) := hap
      rw [hc', bsome, hap', inc hi hlg, hsn]
      unfold hidStep
      cases (hidL (l.take i) lab).contains (hidOne lab z) <;> rfl)
    (by
      unfold R43L0
      try dsimp only
      rw [geS, cond_false])
  exact key
theorem R43_eq (n : Int) (l : List St3) (hl : l.length < Lg) (lab : Int) : R43 Ar.std n (eSt l) lab = some ((hidR n l lab).1, eSt (hidR n l lab).2.1, (hidR n l lab).2.2) := by
  unfold R43 hidR
  rw [R33_eq n l hl, bsome]
  cases hv : vSys n l with
  | false => rfl
  | true =>
    have hle := (vSys_st hv).2.1
    have h61 : R61 Ar.std lab = some (btw 1 lab 3) := by unfold R61; rw [R65_eq]; rfl
    rw [cond_true, cond_true, h61, bsome]
    cases btw 1 lab 3 with
    | false => rfl
    | true => rw [cond_true, cond_true, R43L0_eq l (by omega), bsome]
theorem R93_eq (l : List St3) (hl : l.length < 4294967295) : R93 Ar.std (eSt l) = some (eSt l) := by
  unfold R93
  rw [ap_enc0 (by omega), bsome]
  cases h0 : Ar.std.zlt 0 (Ar.std.len (eSt l)) with
  | true => rfl
  | false =>
    have : l = [] := by simp at h0; exact h0
    subst this
    simp [both]
theorem scalSt (l : List St3) : scalars (eSt l) = true := by
  simp only [scalars, eSt, enc, List.all_map, List.all_eq_true]
  intro c _
  rfl
theorem R92_eq (l : List St3) (i : Nat) (hi : i < l.length) : ∃ L : List D, R92 Ar.std 0 (l.length : Int) (i : Int) ((i + 1 : Nat) : Int) (eSt l) = some (0, ((l.length - 1 : Nat) : Int), L) ∧ fz Ar.std L 0 ((l.length - 1 : Nat) : Int) = some (eSt (l.eraseIdx i)) := by
  have hlen : (eSt l).length = l.length := by simp
  have hsub : Ar.std.sub (eSt l) (Ar.std.zadd 0 ((i + 1 : Nat) : Int)) (Ar.std.zadd (Ar.std.zadd 0 ((i + 1 : Nat) : Int)) (Ar.std.zsub (l.length : Int) ((i + 1 : Nat) : Int))) = (eSt l).drop (i + 1) := by
    have e1 : ((0 : Int) + ((i + 1 : Nat) : Int)).toNat = i + 1 := by omega
    have e2 : ((0 : Int) + ((i + 1 : Nat) : Int) + ((l.length : Int) - ((i + 1 : Nat) : Int))).toNat = l.length := by omega
    rw [std_sub, std_zadd, std_zadd, std_zsub, e1, e2, List.take_of_length_le (by simp)]
  have hspl : Ar.std.spl (eSt l) (Ar.std.zadd 0 (i : Int)) ((eSt l).drop (i + 1)) = (eSt l).take i ++ (eSt l).drop (i + 1) ++ (eSt l).drop (l.length - 1) := by
    have e1 : ((0 : Int) + (i : Int)).toNat = i := by omega
    have e2 : i + ((eSt l).drop (i + 1)).length = l.length - 1 := by simp; omega
    rw [std_spl, std_zadd, e1, e2]
  have hx : Ar.std.zadd (i : Int) (Ar.std.zsub (l.length : Int) ((i + 1 : Nat) : Int)) = ((l.length - 1 : Nat) : Int) := by rw [std_zadd, std_zsub]; omega
  generalize hM : (eSt l).take i ++ (eSt l).drop (i + 1) ++ (eSt l).drop (l.length - 1) = M at hspl
  have hMl : M.length = l.length := by rw [← hM]; simp; omega
  refine ⟨Ar.std.fill M (Ar.std.zadd 0 ((l.length - 1 : Nat) : Int)) (Ar.std.zsub (l.length : Int) ((l.length - 1 : Nat) : Int)) (.agg [(.int .i64 0), (.int .i64 0), (.int .i64 0)]), ?_, ?_⟩
  · unfold R92
    rw [hsub, hspl, hx]
    have c1 : Ar.std.zle 0 (i : Int) = true := by rw [std_zle]; exact decide_eq_true (by omega)
    have c2 : Ar.std.zle (i : Int) ((i + 1 : Nat) : Int) = true := by rw [std_zle]; exact decide_eq_true (by omega)
    have c3 : Ar.std.zle ((i + 1 : Nat) : Int) (l.length : Int) = true := by rw [std_zle]; exact decide_eq_true (by omega)
    have c4 : Ar.std.zle (l.length : Int) (l.length : Int) = true := by rw [std_zle]; exact decide_eq_true (by omega)
    have c5 : Ar.std.zeq (i : Int) ((i + 1 : Nat) : Int) = false := by rw [std_zeq]; exact decide_eq_false (by omega)
    have c6 : Ar.std.zle (i : Int) (l.length : Int) = true := by rw [std_zle]; exact decide_eq_true (by omega)
    have c7 : Ar.std.zlt 0 (l.length : Int) = true := by rw [std_zlt]; exact decide_eq_true (by omega)
    have c8 : Ar.std.zle 0 ((i + 1 : Nat) : Int) = true := by rw [std_zle]; exact decide_eq_true (by omega)
    have c9 : Ar.std.zle ((l.length - 1 : Nat) : Int) (l.length : Int) = true := by rw [std_zle]; exact decide_eq_true (by omega)
    have d1 : Ar.std.zle (Ar.std.zadd (Ar.std.zadd 0 ((i + 1 : Nat) : Int)) (Ar.std.zsub (l.length : Int) ((i + 1 : Nat) : Int))) (Ar.std.len (eSt l)) = true := by
      rw [std_zle, std_zadd, std_zadd, std_zsub, len_enc]; exact decide_eq_true (by omega)
    have d2 : Ar.std.zle (Ar.std.zadd 0 ((l.length - 1 : Nat) : Int)) (Ar.std.len (eSt l)) = true := by
      rw [std_zle, std_zadd, len_enc]; exact decide_eq_true (by omega)
    have d3 : Ar.std.zle 0 ((l.length - 1 : Nat) : Int) = true := by rw [std_zle]; exact decide_eq_true (by omega)
    have d4 : Ar.std.zle (Ar.std.zadd (Ar.std.zadd 0 ((l.length - 1 : Nat) : Int)) (Ar.std.zsub (l.length : Int) ((l.length - 1 : Nat) : Int))) (Ar.std.len M) = true := by
      rw [std_zle, std_zadd, std_zadd, std_zsub, std_len, hMl]; exact decide_eq_true (by omega)
    simp only [c1, c2, c3, c4, c5, c6, c7, c8, c9, d1, d2, d3, d4, ck_true, bsome, cond_false]
  · have hfill : Ar.std.fill M (Ar.std.zadd 0 ((l.length - 1 : Nat) : Int)) (Ar.std.zsub (l.length : Int) ((l.length - 1 : Nat) : Int)) (.agg [(.int .i64 0), (.int .i64 0), (.int .i64 0)]) = M.take (l.length - 1) ++ [.agg [(.int .i64 0), (.int .i64 0), (.int .i64 0)]] := by
      have e1 : ((0 : Int) + ((l.length - 1 : Nat) : Int)).toNat = l.length - 1 := by omega
      have e2 : ((l.length : Int) - ((l.length - 1 : Nat) : Int)).toNat = 1 := by omega
      rw [std_fill, std_zadd, std_zsub]
      unfold fillStd
      rw [e1, e2, List.drop_of_length_le (by omega), List.append_nil]; rfl
    have her : eSt (l.eraseIdx i) = M.take (l.length - 1) := by
      rw [← hM, List.take_append_of_le_length (by simp; omega), List.take_of_length_le (by simp; omega)]
      unfold eSt enc
      rw [List.eraseIdx_eq_take_drop_succ, List.map_append, List.map_take, List.map_drop]
    rw [hfill, her]
    have hz : Ar.std.zle (Ar.std.zadd 0 ((l.length - 1 : Nat) : Int)) (Ar.std.len (M.take (l.length - 1) ++ [.agg [(.int .i64 0), (.int .i64 0), (.int .i64 0)]])) = true := by
      rw [std_zle, std_zadd, std_len]; simp; omega
    unfold fz
    rw [hz, cond_true, std_sub, std_zadd]
    have e1 : ((0 : Int) + ((l.length - 1 : Nat) : Int)).toNat - (0 : Int).toNat = l.length - 1 := by omega
    rw [e1]
    show some (List.take (l.length - 1) (M.take (l.length - 1) ++ _)) = _
    rw [List.take_append_of_le_length (by simp; omega), List.take_take, Nat.min_self]
end Go.Am

set_option maxRecDepth 100000
set_option linter.unusedVariables false
set_option linter.unusedSimpArgs false
set_option linter.unusedSectionVars false
namespace Go.Am
open Go
theorem R45_eq (n : Int) (l : List St3) (hl : l.length < Lg) (hv : vSys n l = true) (i : Nat) (hi : i < l.length) : R45 Ar.std n (eSt l) (i : Int) = some (n, eSt (l.eraseIdx i), 0) := by
  have hle := (vSys_st hv).2.1
  have h1 : Ar.std.zlt (i : Int) 0 = false := by rw [std_zlt]; exact decide_eq_false (by omega)
  have h2 : Ar.std.zle (Ar.std.len (eSt l)) (i : Int) = false := by rw [std_zle, len_enc]; exact decide_eq_false (by omega)
  have h3 : Ar.std.zlt 0 (Ar.std.len (eSt l)) = true := by rw [std_zlt, len_enc]; exact decide_eq_true (by omega)
  obtain ⟨L, e1, e2⟩ := R92_eq l i hi
  have hw : Ar.std.wrp .i64 (Ar.std.zadd (i : Int) 1) = ((i + 1 : Nat) : Int) := inc hi hl
  unfold R45
  rw [R33_eq n l hl, hv, bsome, cond_true, h1, cond_false, h2, bsome, cond_false, R93_eq l (by omega), bsome, h3, cond_true, scalSt, ck_true, bsome, len_enc, hw, e1, bsome]
  try dsimp only
  rw [e2, bsome, bsome]
end Go.Am

set_option maxRecDepth 100000
set_option linter.unusedVariables false
set_option linter.unusedSimpArgs false
set_option linter.unusedSectionVars false
namespace Go.Am
open Go
section
variable {m m' m2 : Nat} {l l' l2 : List St3} (S : Sys m l) (S' : Sys m' l') (S2 : Sys m2 l2)
include S S' S2
end
end Go.Am

set_option maxRecDepth 100000
set_option linter.unusedVariables false
set_option linter.unusedSimpArgs false
set_option linter.unusedSectionVars false
namespace Go.Am
open Go
end Go.Am

set_option maxRecDepth 100000
set_option linter.unusedVariables false
set_option linter.unusedSimpArgs false
set_option linter.unusedSectionVars false
namespace Go.Am
open Go
def addS (out : List St3) (z : St3) : List St3 := bif out.contains z then out else out ++ [z]
def addIf {α : Type} (c : α → Bool) (p : α → St3) (out : List St3) (l : List α) : List St3 := l.foldl (fun out a => bif c a then addS out (p a) else out) out
theorem addS_mem {out : List St3} {z y : St3} : y ∈ addS out z ↔ y ∈ out ∨ y = z := by
  unfold addS
  cases hc : out.contains z with
  | true =>
    rw [cond_true]
    exact ⟨.inl, fun h => h.elim id fun e => by subst e; exact List.contains_iff_mem.1 hc⟩
  | false => rw [cond_false]; simp
theorem addS_nodup {out : List St3} (z : St3) (h : out.Nodup) : (addS out z).Nodup := by
  unfold addS
  cases hc : out.contains z with
  | true => exact h
  | false =>
    rw [cond_false, List.nodup_append]
    refine ⟨h, by simp, fun a ha b hb e => ?_⟩
    rw [List.mem_singleton] at hb
    subst hb; subst e
    rw [List.contains_iff_mem.2 ha] at hc; cases hc
theorem addS_len (out : List St3) (z : St3) : (addS out z).length ≤ out.length + 1 := by unfold addS; cases out.contains z <;> simp
section
variable {α : Type} {c : α → Bool} {p : α → St3}
theorem addIf_mem : ∀ {l : List α} {out : List St3} {y : St3}, y ∈ addIf c p out l ↔ y ∈ out ∨ ∃ a ∈ l, c a = true ∧ y = p a
  | [], out, y => by simp [addIf]
  | a :: l, out, y => by
    have ih := addIf_mem (l := l) (out := bif c a then addS out (p a) else out) (y := y)
    unfold addIf at ih ⊢
    rw [List.foldl_cons, ih]
    constructor
    · rintro (h | ⟨b, hb, h⟩)
      · cases hc : c a with
        | true =>
          rw [hc, cond_true, addS_mem] at h
          rcases h with h | h
          · exact .inl h
          · exact .inr ⟨a, by simp, hc, h⟩
        | false => rw [hc, cond_false] at h; exact .inl h
      · exact .inr ⟨b, by simp [hb], h⟩
    · rintro (h | ⟨b, hb, hc, h⟩)
      · left
        cases c a with
        | true => rw [cond_true, addS_mem]; exact .inl h
        | false => exact h
      · rcases List.mem_cons.1 hb with rfl | hb
        · left; rw [hc, cond_true, addS_mem]; exact .inr h
        · exact .inr ⟨b, hb, hc, h⟩
theorem addIf_nodup : ∀ {l : List α} {out : List St3}, out.Nodup → (addIf c p out l).Nodup
  | [], out, h => h
  | a :: l, out, h => by
    have ih := addIf_nodup (l := l) (out := bif c a then addS out (p a) else out) (by cases c a with | true => exact addS_nodup _ h | false => exact h)
    exact ih
theorem addIf_len : ∀ {l : List α} {out : List St3}, (addIf c p out l).length ≤ out.length + l.length
  | [], out => by simp [addIf]
  | a :: l, out => by
    have ih := addIf_len (l := l) (out := bif c a then addS out (p a) else out)
    have : (bif c a then addS out (p a) else out).length ≤ out.length + 1 := by
      cases c a with
      | true => exact addS_len _ _
      | false => simp
    unfold addIf at ih ⊢
    rw [List.foldl_cons]; simp only [List.length_cons]; omega
theorem addIf_snoc {l : List α} {out : List St3} {a : α} : addIf c p out (l ++ [a]) = bif c a then addS (addIf c p out l) (p a) else addIf c p out l := by simp [addIf, List.foldl_append]
end
def bothA (n : Int) (x y : St3) : St3 := (x.1 * n + y.1, x.2.1, x.2.2 * n + y.2.2)
def bothS (n : Int) (x : St3) (k : Nat) : St3 := (x.1 * n + k, 0, x.2.2 * n + k)
def bothT (n : Int) (y : St3) (i : Nat) : St3 := ((i : Int) * n + y.1, 0, (i : Int) * n + y.2.2)
def both0 (n : Int) (l' : List St3) (x : St3) (out : List St3) : List St3 := addIf (fun y => decide (x.2.1 = y.2.1) && !decide (x.2.1 = 0)) (bothA n x) out l'
def both1 (n : Nat) (x : St3) (out : List St3) : List St3 := addIf (fun _ => decide (x.2.1 = 0)) (bothS n x) out (List.range n)
def both2 (n : Nat) (l' : List St3) (out : List St3) (x : St3) : List St3 := both1 n x (both0 n l' x out)
def both3 (m : Nat) (n : Int) (out : List St3) (y : St3) : List St3 := addIf (fun _ => decide (y.2.1 = 0)) (bothT n y) out (List.range m)
def bothL (m : Nat) (l : List St3) (n : Nat) (l' : List St3) : List St3 := l'.foldl (both3 m n) (l.foldl (both2 n l') [])
theorem foldl_mem {α : Type} {f : List St3 → α → List St3} {g : α → St3 → Prop} (h : ∀ out a y, y ∈ f out a ↔ y ∈ out ∨ g a y) : ∀ (l : List α) (out : List St3) (y : St3), y ∈ l.foldl f out ↔ y ∈ out ∨ ∃ a ∈ l, g a y
  | [], out, y => by simp
  | a :: l, out, y => by
    rw [List.foldl_cons, foldl_mem h l, h]
    simp only [List.mem_cons, exists_eq_or_imp]
    exact or_assoc
theorem foldl_nodup {α : Type} {f : List St3 → α → List St3} (h : ∀ out a, out.Nodup → (f out a).Nodup) : ∀ (l : List α) (out : List St3), out.Nodup → (l.foldl f out).Nodup
  | [], _, ho => ho
  | a :: l, out, ho => by rw [List.foldl_cons]; exact foldl_nodup h l _ (h out a ho)
theorem foldl_len {α : Type} {f : List St3 → α → List St3} {q : Nat} (h : ∀ out a, (f out a).length ≤ out.length + q) : ∀ (l : List α) (out : List St3), (l.foldl f out).length ≤ out.length + l.length * q
  | [], out => by simp
  | a :: l, out => by
    rw [List.foldl_cons]
    have h1 := foldl_len h l (f out a)
    have h2 := h out a
    simp only [List.length_cons, Nat.add_mul, Nat.one_mul]; omega
inductive Tog (m : Nat) (l : List St3) (n : Nat) (l' : List St3) (z : St3) : Prop
  | both (x y : St3) (hx : x ∈ l) (hy : y ∈ l') (he : x.2.1 = y.2.1) (h0 : x.2.1 ≠ 0) (hz : z = bothA n x y)
  | one (x : St3) (k : Nat) (hx : x ∈ l) (h0 : x.2.1 = 0) (hk : k < n) (hz : z = bothS n x k)
  | two (y : St3) (i : Nat) (hy : y ∈ l') (h0 : y.2.1 = 0) (hi : i < m) (hz : z = bothT n y i)
theorem bothL_mem {m : Nat} {l : List St3} {n : Nat} {l' : List St3} {z : St3} : z ∈ bothL m l n l' ↔ Tog m l n l' z := by
  unfold bothL
  rw [foldl_mem (f := both3 m n) (g := fun y z => ∃ i ∈ List.range m, decide (y.2.1 = 0) = true ∧ z = bothT n y i) (fun out a y => addIf_mem),
    foldl_mem (f := both2 n l') (g := fun x z => (∃ y ∈ l', (decide (x.2.1 = y.2.1) && !decide (x.2.1 = 0)) = true ∧ z = bothA n x y) ∨ ∃ k ∈ List.range n, decide (x.2.1 = 0) = true ∧ z = bothS n x k) (fun out a y => by
      unfold both2 both1 both0
      rw [addIf_mem, addIf_mem, or_assoc])]
  constructor
  · rintro ((h | ⟨x, hx, ⟨y, hy, hc, hz⟩ | ⟨k, hk, hc, hz⟩⟩) | ⟨y, hy, i, hi, hc, hz⟩)
    · cases h
    · rw [Bool.and_eq_true, Bool.not_eq_true', decide_eq_true_eq, decide_eq_false_iff_not] at hc
      exact .both x y hx hy hc.1 hc.2 hz
    · exact .one x k hx (of_decide_eq_true hc) (List.mem_range.1 hk) hz
    · exact .two y i hy (of_decide_eq_true hc) (List.mem_range.1 hi) hz
  · rintro (⟨x, y, hx, hy, he, h0, hz⟩ | ⟨x, k, hx, h0, hk, hz⟩ | ⟨y, i, hy, h0, hi, hz⟩)
    · exact .inl (.inr ⟨x, hx, .inl ⟨y, hy, by rw [decide_eq_true he, decide_eq_false h0]; rfl, hz⟩⟩)
    · exact .inl (.inr ⟨x, hx, .inr ⟨k, List.mem_range.2 hk, decide_eq_true h0, hz⟩⟩)
    · exact .inr ⟨y, hy, i, List.mem_range.2 hi, decide_eq_true h0, hz⟩
theorem bothL_nodup (m : Nat) (l : List St3) (n : Nat) (l' : List St3) : (bothL m l n l').Nodup :=
  foldl_nodup (fun out a h => addIf_nodup h) l' _ (foldl_nodup (fun out a h => addIf_nodup (addIf_nodup h)) l [] .nil)
theorem both2_len (n : Nat) (l' : List St3) (out : List St3) (x : St3) : (both2 n l' out x).length ≤ out.length + (l'.length + n) := by
  unfold both2 both1 both0
  refine Nat.le_trans addIf_len ?_
  have := addIf_len (c := fun y : St3 => decide (x.2.1 = y.2.1) && !decide (x.2.1 = 0)) (p := bothA n x) (l := l') (out := out)
  simp only [List.length_range]; omega
theorem R102_eq {out : List St3} (ho : out.length < 4294967295) {i k j q : Int} {n : Int} (lab : Int) (x7 : List D) (x8 : Int) (h1 : 0 ≤ i ∧ i < 1000) (h2 : 0 ≤ k ∧ k < 1000) (h3 : 0 ≤ j ∧ j < 1000) (h4 : 0 ≤ q ∧ q < 1000) (hn : 0 ≤ n ∧ n < 1000) :
    R102 Ar.std i k lab j q n x7 x8 (eSt out) = some (eSt (addS out (i * n + k, lab, j * n + q))) := by
  have hin : 0 ≤ i * n ∧ i * n ≤ 1000000 := ⟨Int.mul_nonneg h1.1 hn.1, Int.le_trans (Int.mul_le_mul_of_nonneg_right (by omega : i ≤ 1000) hn.1) (by omega)⟩
  have hjn : 0 ≤ j * n ∧ j * n ≤ 1000000 := ⟨Int.mul_nonneg h3.1 hn.1, Int.le_trans (Int.mul_le_mul_of_nonneg_right (by omega : j ≤ 1000) hn.1) (by omega)⟩
  have e1 : Ar.std.wrp .i64 (Ar.std.zadd (Ar.std.wrp .i64 (Ar.std.zmul i n)) k) = i * n + k := by
    simp only [std_wrp, std_zadd, std_zmul]; rw [i64w (i * n) (by omega) (by omega), i64w _ (by omega) (by omega)]
  have e2 : Ar.std.wrp .i64 (Ar.std.zadd (Ar.std.wrp .i64 (Ar.std.zmul j n)) q) = j * n + q := by
    simp only [std_wrp, std_zadd, std_zmul]; rw [i64w (j * n) (by omega) (by omega), i64w _ (by omega) (by omega)]
  unfold R102
  rw [e1, e2, R89_eq out (Nat.lt_trans ho (by decide)) (i * n + k, lab, j * n + q), bsome]
  have hap : ap Ar.std (eSt out) [.agg [.int .i64 (i * n + k), .int .i64 lab, .int .i64 (j * n + q)]] = some (eSt (out ++ [(i * n + k, lab, j * n + q)])) := ap_enc1 rfl ho
  rw [hap]
  unfold addS
  cases out.contains (i * n + k, lab, j * n + q) <;> rfl
theorem both2_fold_len (n : Nat) (l' : List St3) : ∀ (l : List St3) (out : List St3), (l.foldl (both2 n l') out).length ≤ out.length + l.length * (l'.length + n) := foldl_len (fun out a => both2_len n l' out a)
section
variable {m n : Nat} {l l' : List St3} (S : Sys m l) (S' : Sys n l')
include S'
theorem R56L0_eq {x : St3} (hx : (0 ≤ x.1 ∧ x.1 < 6) ∧ (0 ≤ x.2.2 ∧ x.2.2 < 6) ∧ (0 ≤ x.2.1 ∧ x.2.1 ≤ 3)) (a : Int) {out : List St3} (ho : out.length + l'.length < 4294967295) :
    iter (R56L0 Ar.std a n (eSt l') x.1 x.2.1 x.2.2) (0, eSt out) = some (eSt (both0 n l' x out)) := by
  have hlg : l'.length < Lg := S'.ok.1
  have hn6 := S'.le
  have key := iter_pre (step := R56L0 Ar.std a n (eSt l') x.1 x.2.1 x.2.2) l' (fun pre => both0 n pre x out) (fun s k => ((k : Int), eSt s)) (fun s => eSt s)
    (fun i y hy hi => by
      have hle : (both0 n (l'.take i) x out).length < 4294967295 := Nat.lt_of_le_of_lt addIf_len (by simp; omega)
      have hyo := S'.ok.2 y (List.mem_of_getElem? hy)
      have hsn : both0 n (l'.take i ++ [y]) x out = bif (decide (x.2.1 = y.2.1) && !decide (x.2.1 = 0)) then addS (both0 n (l'.take i) x out) (bothA n x y) else both0 n (l'.take i) x out := addIf_snoc
      have h102 := R102_eq hle (n := n) x.2.1 (eSt l') (Ar.std.wrp .i64 (Ar.std.zmul a n)) (i := x.1) (k := y.1) (j := x.2.2) (q := y.2.2) (by omega) (by omega) (by omega) (by omega) (by omega)
      have hsel : (bif Ar.std.zeq x.2.1 y.2.1 then some (!Ar.std.zeq x.2.1 0) else some false : Option Bool) = some (decide (x.2.1 = y.2.1) && !decide (x.2.1 = 0)) := by
        rw [std_zeq, std_zeq]
        cases decide (x.2.1 = y.2.1) <;> rfl
      unfold R56L0
      try dsimp only
      rw [ltS hi, cond_true, gt_enc hy, bsome]
      try dsimp only
      rw [hsel, bsome, h102, inc hi hlg, hsn]
      cases (decide (x.2.1 = y.2.1) && !decide (x.2.1 = 0)) <;> rfl)
    (by
      unfold R56L0
      try dsimp only
      rw [geS, cond_false])
  exact key
theorem R56L1_eq {x : St3} (hx : (0 ≤ x.1 ∧ x.1 < 6) ∧ (0 ≤ x.2.2 ∧ x.2.2 < 6) ∧ (0 ≤ x.2.1 ∧ x.2.1 ≤ 3)) (a : Int) {out : List St3} (ho : out.length + n < 4294967295) :
    iter (R56L1 Ar.std a n (eSt l') x.1 x.2.1 x.2.2) (0, eSt out) = some (eSt (both1 n x out)) := by
  have hn6 := S'.le
  have key := iter_pre (step := R56L1 Ar.std a n (eSt l') x.1 x.2.1 x.2.2) (List.range n) (fun pre => addIf (fun _ => decide (x.2.1 = 0)) (bothS n x) out pre) (fun s k => ((k : Int), eSt s)) (fun s => eSt s)
    (fun i y hy hi => by
      have hin : i < n := by simpa using hi
      have hyi : y = i := by
        rw [List.getElem?_range hin] at hy
        exact (Option.some.inj hy).symm
      subst hyi
      have hle : (addIf (fun _ => decide (x.2.1 = 0)) (bothS n x) out ((List.range n).take y)).length < 4294967295 := Nat.lt_of_le_of_lt addIf_len (by simp; omega)
      have h102 := R102_eq hle (n := n) 0 (eSt l') (Ar.std.wrp .i64 (Ar.std.zmul a n)) (i := x.1) (k := (y : Int)) (j := x.2.2) (q := (y : Int)) (by omega) (by omega) (by omega) (by omega) (by omega)
      unfold R56L1
      try dsimp only
      rw [ltN hin, cond_true, std_zeq, h102, inc hin (Nat.lt_of_le_of_lt hn6 (by decide)), addIf_snoc]
      cases decide (x.2.1 = 0) <;> rfl)
    (by
      unfold R56L1
      try dsimp only
      rw [List.length_range, geN, cond_false])
  exact key
include S
theorem R56L2_eq (hl24 : l.length ≤ 24) (hl24' : l'.length ≤ 24) : iter (R56L2 Ar.std m (eSt l) n (eSt l')) (0, []) = some (eSt (l.foldl (both2 n l') [])) := by
  have hlg : l.length < Lg := S.ok.1
  have hn6 := S'.le
  have key := iter_pre (step := R56L2 Ar.std m (eSt l) n (eSt l')) l (fun pre => pre.foldl (both2 n l') []) (fun s k => ((k : Int), eSt s)) (fun s => eSt s)
    (fun i x hx hi => by
      have hxo := S.ok.2 x (List.mem_of_getElem? hx)
      have hle := both2_fold_len n l' (l.take i) []
      have hlt : (l.take i).length ≤ 24 := by simp; omega
      have hm : (l.take i).length * (l'.length + n) ≤ 24 * 30 := Nat.mul_le_mul hlt (by omega)
      have h0 : (both0 n l' x ((l.take i).foldl (both2 n l') [])).length ≤ ((l.take i).foldl (both2 n l') []).length + l'.length := addIf_len
      simp only [List.length_nil] at hle
      have e0 := R56L0_eq S' (l' := l') (n := n) hxo (m : Int) (out := (l.take i).foldl (both2 n l') []) (by omega)
      have e1 := R56L1_eq S' (l' := l') (n := n) hxo (m : Int) (out := both0 n l' x ((l.take i).foldl (both2 n l') [])) (by omega)
      unfold R56L2
      try dsimp only
      rw [ltS hi, cond_true, gt_enc hx, bsome]
      try dsimp only
      rw [e0, bsome, e1, bsome, inc hi hlg, List.foldl_append]
      rfl)
    (by
      unfold R56L2
      try dsimp only
      rw [geS, cond_false])
  exact key
theorem R56L3_eq {y : St3} (hy : (0 ≤ y.1 ∧ y.1 < 6) ∧ (0 ≤ y.2.2 ∧ y.2.2 < 6) ∧ (0 ≤ y.2.1 ∧ y.2.1 ≤ 3)) (hn6 : n ≤ 6) {out : List St3} (ho : out.length + m < 4294967295) :
    iter (R56L3 Ar.std m n (eSt l') y.1 y.2.1 y.2.2) (0, eSt out) = some (eSt (both3 m n out y)) := by
  have hm6 := S.le
  have key := iter_pre (step := R56L3 Ar.std m n (eSt l') y.1 y.2.1 y.2.2) (List.range m) (fun pre => addIf (fun _ => decide (y.2.1 = 0)) (bothT n y) out pre) (fun s k => ((k : Int), eSt s)) (fun s => eSt s)
    (fun i z hz hi => by
      have him : i < m := by simpa using hi
      have hzi : z = i := by
        rw [List.getElem?_range him] at hz
        exact (Option.some.inj hz).symm
      subst hzi
      have hle : (addIf (fun _ => decide (y.2.1 = 0)) (bothT n y) out ((List.range m).take z)).length < 4294967295 := Nat.lt_of_le_of_lt addIf_len (by simp; omega)
      have h102 := R102_eq hle (n := n) 0 (eSt l') (Ar.std.wrp .i64 (Ar.std.zmul m n)) (i := (z : Int)) (k := y.1) (j := (z : Int)) (q := y.2.2) (by omega) (by omega) (by omega) (by omega) (by omega)
      unfold R56L3
      try dsimp only
      rw [ltN him, cond_true, std_zeq, h102, inc him (Nat.lt_of_le_of_lt hm6 (by decide)), addIf_snoc]
      cases decide (y.2.1 = 0) <;> rfl)
    (by
      unfold R56L3
      try dsimp only
      rw [List.length_range, geN, cond_false])
  exact key
theorem R56L4_eq (hl24' : l'.length ≤ 24) {out : List St3} (ho : out.length ≤ 1000) : iter (R56L4 Ar.std m n (eSt l')) (0, eSt out) = some (eSt (l'.foldl (both3 m n) out)) := by
  have hlg : l'.length < Lg := S'.ok.1
  have hm6 := S.le
  have hn6 := S'.le
  have key := iter_pre (step := R56L4 Ar.std m n (eSt l')) l' (fun pre => pre.foldl (both3 m n) out) (fun s k => ((k : Int), eSt s)) (fun s => eSt s)
    (fun i y hy hi => by
      have hyo := S'.ok.2 y (List.mem_of_getElem? hy)
      have hle := foldl_len (f := both3 m n) (q := m) (fun o a => by unfold both3; exact Nat.le_trans addIf_len (by simp)) (l'.take i) out
      have hlt : (l'.take i).length ≤ 24 := by simp; omega
      have hm : (l'.take i).length * m ≤ 24 * 6 := Nat.mul_le_mul hlt hm6
      have e0 := R56L3_eq S S' hyo hn6 (out := (l'.take i).foldl (both3 m n) out) (by omega)
      unfold R56L4
      try dsimp only
      rw [ltS hi, cond_true, gt_enc hy, bsome]
      try dsimp only
      rw [e0, bsome, inc hi hlg, List.foldl_append]
      rfl)
    (by
      unfold R56L4
      try dsimp only
      rw [geS, cond_false])
  exact key
end
def cmpI (a b : Int) : Int := if a < b then -1 else if b < a then 1 else 0
def orL (l : List Int) : Int := (l.find? (fun x => !decide (x = 0))).getD 0
theorem R113_eq3 (a b c : Int) : R113 Ar.std [.int .i64 a, .int .i64 b, .int .i64 c] = some (orL [a, b, c]) := by
  have step : ∀ (i : Nat) (x : Int), ([a, b, c] : List Int)[i]? = some x → R113L0 Ar.std [.int .i64 a, .int .i64 b, .int .i64 c] (i : Int) = bif decide (x = 0) then some (.inl ((i + 1 : Nat) : Int)) else some (.inr (.inr x)) := by
    intro i x hx
    have hi : i < ([a, b, c] : List Int).length := (List.getElem?_eq_some_iff.1 hx).1
    have e : ([.int .i64 a, .int .i64 b, .int .i64 c] : List D) = eInt [a, b, c] := rfl
    unfold R113L0
    rw [e, eInt, ltS hi, cond_true, gt_enc hx, bsome, std_zeq, inc hi (by show 3 < 9223372036854775808; decide)]
  have last : R113L0 Ar.std [.int .i64 a, .int .i64 b, .int .i64 c] ((3 : Nat) : Int) = some (.inr (.inl ())) := by
    have e : ([.int .i64 a, .int .i64 b, .int .i64 c] : List D) = eInt [a, b, c] := rfl
    have h := geS (c := cI .i64) (l := [a, b, c])
    unfold R113L0
    rw [e, eInt]
    rw [show ((3 : Nat) : Int) = (([a, b, c] : List Int).length : Int) from rfl, h, cond_false]
  have s0 := step 0 a rfl
  have s1 := step 1 b rfl
  have s2 := step 2 c rfl
  unfold R113 orL
  have z : (0 : Int) = ((0 : Nat) : Int) := rfl
  rw [z]
  by_cases ha : a = 0
  · rw [decide_eq_true ha, cond_true] at s0
    rw [iter_inl s0]
    by_cases hb : b = 0
    · rw [decide_eq_true hb, cond_true] at s1
      rw [iter_inl s1]
      by_cases hc : c = 0
      · rw [decide_eq_true hc, cond_true] at s2
        rw [iter_inl s2, iter_inr last]; simp [ha, hb, hc]
      · rw [decide_eq_false hc, cond_false] at s2
        rw [iter_inr s2]; simp [ha, hb, hc]
    · rw [decide_eq_false hb, cond_false] at s1
      rw [iter_inr s1]; simp [ha, hb]
  · rw [decide_eq_false ha, cond_false] at s0
    rw [iter_inr s0]; simp [ha]
def cmpSt (x y : St3) : Int := orL [cmpI x.1 y.1, cmpI x.2.1 y.2.1, cmpI x.2.2 y.2.2]
theorem R104_eq (x y : St3) : R104 Ar.std x.1 x.2.1 x.2.2 y.1 y.2.1 y.2.2 = some (cmpSt x y) := by
  unfold R104
  rw [R114_eq, bsome, R114_eq, bsome, R114_eq, bsome, R113_eq3, bsome]; rfl
theorem cmpI_neg {a b : Int} : cmpI a b < 0 ↔ a < b := by
  unfold cmpI
  by_cases h1 : a < b
  · simp [h1]
  · by_cases h2 : b < a <;> simp [h1, h2]
theorem cmpI_zero {a b : Int} : cmpI a b = 0 ↔ a = b := by
  unfold cmpI
  by_cases h1 : a < b
  · simp [h1]; omega
  · by_cases h2 : b < a <;> simp [h1, h2] <;> omega
def ltSt (x y : St3) : Prop := x.1 < y.1 ∨ x.1 = y.1 ∧ (x.2.1 < y.2.1 ∨ x.2.1 = y.2.1 ∧ x.2.2 < y.2.2)
theorem orL_neg (a b c : Int) : orL [a, b, c] < 0 ↔ a < 0 ∨ a = 0 ∧ (b < 0 ∨ b = 0 ∧ c < 0) := by
  unfold orL
  by_cases ha : a = 0
  · by_cases hb : b = 0
    · by_cases hc : c = 0
      · simp [ha, hb, hc]
      · simp [ha, hb, hc]
    · simp [ha, hb]
  · simp [ha]
theorem cmpSt_neg {x y : St3} : cmpSt x y < 0 ↔ ltSt x y := by
  unfold cmpSt ltSt
  rw [orL_neg, cmpI_neg, cmpI_neg, cmpI_neg, cmpI_zero, cmpI_zero]
instance (x y : St3) : Decidable (ltSt x y) := by unfold ltSt; infer_instance
theorem ltSt_trans {x y z : St3} (h : ltSt x y) (h' : ltSt y z) : ltSt x z := by unfold ltSt at *; omega
theorem ltSt_irr {x : St3} : ¬ ltSt x x := by unfold ltSt; omega
theorem ltSt_tot {x y : St3} (h : ¬ ltSt x y) (h' : ¬ ltSt y x) : x = y := by
  obtain ⟨a, b, c⟩ := x; obtain ⟨d, e, f⟩ := y
  unfold ltSt at *
  simp only [Prod.mk.injEq]
  simp only at h h'
  omega
noncomputable def cmpF : St3 → St3 → Option Int := fun (a0, a1, a2) (b0, b1, b2) => R104 Ar.std a0 a1 a2 b0 b1 b2
theorem cmpF_eq (x y : St3) : cmpF x y = some (cmpSt x y) := R104_eq x y
theorem ltF_cmp (x y : St3) : ltF cmpF x y = decide (ltSt x y) := by
  unfold ltF
  rw [cmpF_eq]
  exact decide_eq_decide.2 cmpSt_neg
theorem cmpF_ok (xs : List St3) : CmpOk cmpF xs where
  some x _ y _ := ⟨_, cmpF_eq x y⟩
  irr x _ := by rw [ltF_cmp]; exact decide_eq_false ltSt_irr
  tr x _ y _ z _ h h' := by rw [ltF_cmp, decide_eq_true_eq] at *; exact ltSt_trans h h'
  tot x _ y _ h h' := by rw [ltF_cmp, decide_eq_false_iff_not] at *; exact ltSt_tot h h'
noncomputable def sortSt (l : List St3) : List St3 := l.mergeSort fun x y => !ltF cmpF y x
theorem sortSt_perm (l : List St3) : (sortSt l).Perm l := List.mergeSort_perm _ _
theorem sortSt_len (l : List St3) : (sortSt l).length = l.length := (sortSt_perm l).length_eq
theorem R103a_eq (l : List St3) (hl : l.length < 4611686018427387904) (a b c : Int) : R103a Ar.std 0 (Ar.std.len (eSt l)) a b c (eSt l) = some (eSt (sortSt l)) := by
  have := srt_eq (c := cG (lc (cI .i64) (lc (cI .i64) (l1 (cI .i64))))) (f := cmpF) (n := Ar.std.len (eSt l)) (xs := l) (by rw [len_enc]) (by rw [len_enc]; omega) (cmpF_ok l)
  exact this
end Go.Am

set_option maxRecDepth 100000
set_option linter.unusedVariables false
set_option linter.unusedSimpArgs false
set_option linter.unusedSectionVars false
namespace Go.Am
open Go
theorem pairZ (i k n : Nat) : ((i : Int) * (n : Int) + (k : Int)) = ((i * n + k : Nat) : Int) := by rw [Int.natCast_add, Int.natCast_mul]
theorem pair_div {i k n : Nat} (h : k < n) : (i * n + k) / n = i := by rw [Nat.add_comm, Nat.add_mul_div_right _ _ (by omega), Nat.div_eq_of_lt h, Nat.zero_add]
theorem pair_mod {i k n : Nat} (h : k < n) : (i * n + k) % n = k := by rw [Nat.add_comm, Nat.add_mul_mod_self_right, Nat.mod_eq_of_lt h]
theorem pair_lt {i k m n : Nat} (h : i < m) (h' : k < n) : i * n + k < m * n := by
  have := Nat.mul_le_mul_right n (show i + 1 ≤ m by omega)
  rw [Nat.add_mul] at this; omega
theorem pair_of {j m n : Nat} (h : j < m * n) : ∃ i k, i < m ∧ k < n ∧ j = i * n + k := by
  have hn : 0 < n := by rcases Nat.eq_zero_or_pos n with rfl | h1; simp at h; exact h1
  refine ⟨j / n, j % n, ?_, Nat.mod_lt _ hn, ?_⟩
  · rw [Nat.div_lt_iff_lt_mul hn]; exact h
  · rw [Nat.mul_comm]; exact (Nat.div_add_mod j n).symm
theorem st_bnd {m : Nat} {l : List St3} (hv : vSys (m : Int) l = true) {x : St3} (hx : x ∈ l) : ∃ i i' : Nat, x.1 = (i : Int) ∧ x.2.2 = (i' : Int) ∧ i < m ∧ i' < m ∧ 0 ≤ x.2.1 ∧ x.2.1 ≤ 3 := by
  obtain ⟨_, _, _, h⟩ := vSys_st hv
  have := stOk_iff.1 (h x hx)
  exact ⟨x.1.toNat, x.2.2.toNat, by omega, by omega, by omega, by omega, this.2.2⟩
section
variable {m n : Nat} {l l' B : List St3} (hv : vSys (m : Int) l = true) (hv' : vSys (n : Int) l' = true) (S : Sys m l) (S' : Sys n l') (hmn : m * n ≤ 6) (hB : ∀ z, z ∈ B ↔ Tog m l n l' z) (hvB : vSys ((m * n : Nat) : Int) B = true) (SB' : Sys (m * n) B)
include hv hv' S S' hmn hB
theorem tog_dec {z : St3} (hz : z ∈ B) : ∃ i k i' k' : Nat, (i < m ∧ k < n ∧ i' < m ∧ k' < n) ∧ z.1 = ((i * n + k : Nat) : Int) ∧ z.2.2 = ((i' * n + k' : Nat) : Int) ∧ (0 ≤ z.2.1 ∧ z.2.1 ≤ 3) ∧
    ((z.2.1 ≠ 0 ∧ ((i : Int), z.2.1, (i' : Int)) ∈ l ∧ ((k : Int), z.2.1, (k' : Int)) ∈ l') ∨ (z.2.1 = 0 ∧ ((i : Int), 0, (i' : Int)) ∈ l ∧ k' = k) ∨ (z.2.1 = 0 ∧ i' = i ∧ ((k : Int), 0, (k' : Int)) ∈ l')) := by
  rcases (hB z).1 hz with ⟨x, y, hx, hy, he, h0, rfl⟩ | ⟨x, k, hx, h0, hk, rfl⟩ | ⟨y, i, hy, h0, hi, rfl⟩
  · obtain ⟨i, i', e1, e2, h1, h2, h3⟩ := st_bnd hv hx
    obtain ⟨k, k', e3, e4, h4, h5, h6⟩ := st_bnd hv' hy
    obtain ⟨x1, x2, x3⟩ := x
    obtain ⟨y1, y2, y3⟩ := y
    simp only at *
    subst e1; subst e2; subst e3; subst e4; subst he
    exact ⟨i, k, i', k', ⟨h1, h4, h2, h5⟩, pairZ _ _ _, pairZ _ _ _, h3, .inl ⟨h0, hx, hy⟩⟩
  · obtain ⟨i, i', e1, e2, h1, h2, h3⟩ := st_bnd hv hx
    obtain ⟨x1, x2, x3⟩ := x
    simp only at *
    subst e1; subst e2; subst h0
    exact ⟨i, k, i', k, ⟨h1, hk, h2, hk⟩, pairZ _ _ _, pairZ _ _ _, ⟨Int.le_refl 0, (by decide : (0 : Int) ≤ 3)⟩, .inr (.inl ⟨rfl, hx, rfl⟩)⟩
  · obtain ⟨k, k', e3, e4, h4, h5, h6⟩ := st_bnd hv' hy
    obtain ⟨y1, y2, y3⟩ := y
    simp only at *
    subst e3; subst e4; subst h0
    exact ⟨i, k, i, k', ⟨hi, h4, hi, h5⟩, pairZ _ _ _, pairZ _ _ _, ⟨Int.le_refl 0, (by decide : (0 : Int) ≤ 3)⟩, .inr (.inr ⟨rfl, rfl, hy⟩)⟩
omit S S' hmn hv hv' in
theorem togA {i k i' k' : Nat} {lab : Int} (h0 : lab ≠ 0) (hx : ((i : Int), lab, (i' : Int)) ∈ l) (hy : ((k : Int), lab, (k' : Int)) ∈ l') : (((i * n + k : Nat) : Int), lab, ((i' * n + k' : Nat) : Int)) ∈ B := by
  refine (hB _).2 (.both _ _ hx hy rfl h0 ?_)
  unfold bothA
  simp only [pairZ]
omit S S' hmn hv hv' in
theorem togS {i i' k : Nat} (hx : ((i : Int), (0 : Int), (i' : Int)) ∈ l) (hk : k < n) : (((i * n + k : Nat) : Int), (0 : Int), ((i' * n + k : Nat) : Int)) ∈ B := by
  refine (hB _).2 (.one _ k hx rfl hk ?_)
  unfold bothS
  simp only [pairZ]
omit S S' hmn hv hv' in
theorem togT {i k k' : Nat} (hy : ((k : Int), (0 : Int), (k' : Int)) ∈ l') (hi : i < m) : (((i * n + k : Nat) : Int), (0 : Int), ((i * n + k' : Nat) : Int)) ∈ B := by
  refine (hB _).2 (.two _ i hy rfl hi ?_)
  unfold bothT
  simp only [pairZ]
include SB'
end
end Go.Am

set_option maxRecDepth 100000
set_option linter.unusedVariables false
set_option linter.unusedSimpArgs false
set_option linter.unusedSectionVars false
namespace Go.Am
open Go
noncomputable def bothS' (m : Nat) (l : List St3) (n : Nat) (l' : List St3) : List St3 := sortSt (bothL m l n l')
noncomputable def bothR (m : Nat) (l : List St3) (n : Nat) (l' : List St3) : Int × List St3 × Int :=
  bif decide (6 < m * n) || decide (24 < (bothL m l n l').length) then (0, [], 4) else (((m * n : Nat) : Int), bothS' m l n l', 0)
theorem bothS_mem {m : Nat} {l : List St3} {n : Nat} {l' : List St3} (z : St3) : z ∈ bothS' m l n l' ↔ Tog m l n l' z := by
  unfold bothS'; rw [(sortSt_perm _).mem_iff, bothL_mem]
theorem scalSt' (l : List St3) : ck (scalars (eSt l)) = some () := by rw [scalSt, ck_true]
theorem fz_all (l : List St3) : fz Ar.std (eSt l) 0 (Ar.std.len (eSt l)) = some (eSt l) := by
  unfold fz
  have h1 : Ar.std.zle (Ar.std.zadd 0 (Ar.std.len (eSt l))) (Ar.std.len (eSt l)) = true := by rw [std_zle, std_zadd]; exact decide_eq_true (by omega)
  have hle : (eSt l).length = l.length := by simp [eSt, enc]
  have h2 : Ar.std.sub (eSt l) 0 (Ar.std.zadd 0 (Ar.std.len (eSt l))) = eSt l := by
    simp only [Ar.std, Int.zero_add, Int.toNat_natCast, Int.toNat_zero, List.drop_zero, Nat.sub_zero]
    exact List.take_of_length_le (Nat.le_refl _)
  rw [h1, cond_true, h2]
theorem R56_ok {m n : Nat} {l l' : List St3} (hv : vSys (m : Int) l = true) (hv' : vSys (n : Int) l' = true) (S : Sys m l) (S' : Sys n l') (hl : l.length < Lg) (hl' : l'.length < Lg) :
    R56 Ar.std (m : Int) (eSt l) (n : Int) (eSt l') = some ((bothR m l n l').1, eSt (bothR m l n l').2.1, (bothR m l n l').2.2) := by
  have h24 := (vSys_st hv).2.1
  have h24' := (vSys_st hv').2.1
  have hm6 := S.le
  have hn6 := S'.le
  have hmn36 : m * n ≤ 36 := Nat.mul_le_mul hm6 hn6
  have hw : Ar.std.wrp .i64 (Ar.std.zmul (m : Int) (n : Int)) = ((m * n : Nat) : Int) := by
    rw [std_zmul, ← Int.natCast_mul, std_wrp, i64w _ (by omega) (by omega)]
  have hlim : Ar.std.zlt 6 ((m * n : Nat) : Int) = decide (6 < m * n) := by rw [std_zlt]; exact decide_eq_decide.2 (by omega)
  unfold R56 bothR
  rw [R33_eq _ l hl, bsome, hv, cond_true, R33_eq _ l' hl', bsome, hv', Bool.not_true, bsome, cond_false, hw, hlim]
  cases h6 : decide (6 < m * n) with
  | true => rfl
  | false =>
    have h6' : m * n ≤ 6 := by have := of_decide_eq_false h6; omega
    have hlen0 := both2_fold_len n l' l []
    have hm : l.length * (l'.length + n) ≤ 24 * 30 := Nat.mul_le_mul h24 (by omega)
    simp only [List.length_nil] at hlen0
    rw [cond_false, R56L2_eq S S' h24 h24', bsome, R56L4_eq S S' h24' (by omega), bsome, show l'.foldl (both3 m n) (l.foldl (both2 n l') []) = bothL m l n l' from rfl]
    have hlb : Ar.std.zlt 24 (Ar.std.len (eSt (bothL m l n l'))) = decide (24 < (bothL m l n l').length) := by rw [std_zlt, len_enc]; exact decide_eq_decide.2 (by omega)
    rw [hlb, Bool.false_or]
    cases hb : decide (24 < (bothL m l n l').length) with
    | true => rfl
    | false =>
      have hb' : (bothL m l n l').length ≤ 24 := by have := of_decide_eq_false hb; omega
      rw [cond_false, cond_false]
      have hpos : Ar.std.zlt 0 (Ar.std.len (eSt (bothL m l n l'))) = decide (0 < (bothL m l n l').length) := by rw [std_zlt, len_enc]; exact decide_eq_decide.2 (by omega)
      rw [hpos]
      unfold bothS'
      cases hp : decide (0 < (bothL m l n l').length) with
      | false =>
        have hnil : bothL m l n l' = [] := List.eq_nil_of_length_eq_zero (by have := of_decide_eq_false hp; omega)
        rw [cond_false, hnil]
        unfold R103
        have : sortSt [] = [] := List.eq_nil_of_length_eq_zero (sortSt_len [])
        rw [this]; rfl
      | true =>
        rw [cond_true, scalSt', bsome, R103a_eq _ (by omega), bsome]
        have hfz : fz Ar.std (eSt (sortSt (bothL m l n l'))) 0 (Ar.std.len (eSt (bothL m l n l'))) = some (eSt (sortSt (bothL m l n l'))) := by
          have e : Ar.std.len (eSt (bothL m l n l')) = Ar.std.len (eSt (sortSt (bothL m l n l'))) := by rw [len_enc, len_enc, sortSt_len]
          rw [e]; exact fz_all _
        rw [hfz, bsome]
end Go.Am

set_option maxRecDepth 100000
set_option linter.unusedVariables false
set_option linter.unusedSimpArgs false
set_option linter.unusedSectionVars false
namespace Go.Am
open Go
theorem any_contains (out : List St3) (z : St3) : out.any (fun y => decide (z = y)) = out.contains z := by
  rw [Bool.eq_iff_iff, List.any_eq_true, List.contains_iff_mem]
  exact ⟨fun ⟨y, hy, e⟩ => by rw [of_decide_eq_true e]; exact hy, fun h => ⟨z, h, decide_eq_true rfl⟩⟩
theorem R101_eq (out : List St3) (ho : out.length < 4294967295) (z : St3) : R101 Ar.std (eSt out) z.1 z.2.1 z.2.2 = some (eSt (addS out z)) := by
  have hlg : out.length < Lg := Nat.lt_trans ho (by decide)
  have key := iter_any (step := R101L0 Ar.std (eSt out) z.1 z.2.1 z.2.2) out (fun y => decide (z = y)) (.inr ()) (.inl ()) (fun i y hy hi => by
      unfold R101L0
      try dsimp only
      rw [ltS hi, cond_true, gt_enc hy, bsome]
      try dsimp only
      rw [deq_st z y, inc hi hlg]
      cases decide (z = y) <;> rfl) (by
      unfold R101L0
      try dsimp only
      rw [geS, cond_false])
  rw [any_contains] at key
  have hap : ap Ar.std (eSt out) [.agg [.int .i64 z.1, .int .i64 z.2.1, .int .i64 z.2.2]] = some (eSt (out ++ [z])) := ap_enc1 rfl ho
  unfold R101 addS
  rw [key, bsome]
  cases out.contains z with
  | true => rfl
  | false =>
    rw [cond_false, Sum.elim_inl, hap, bsome, cond_false]
theorem R54L0_eq (l : List St3) (hl : l.length < 4294967295) (lab : Int) : iter (R54L0 Ar.std (eSt l) lab) ([], 0) = some (eSt (hidL l lab)) := by
  have hlg : l.length < Lg := Nat.lt_trans hl (by decide)
  have key := iter_pre (step := R54L0 Ar.std (eSt l) lab) l (fun pre => hidL pre lab) (fun s k => (eSt s, (k : Int))) (fun s => eSt s)
    (fun i z hz hi => by
      have hle : (hidL (l.take i) lab).length < 4294967295 := Nat.lt_of_le_of_lt (hidL_len _ _) (by simp; omega)
      have hsn : hidL (l.take i ++ [z]) lab = addS (hidL (l.take i) lab) (hidOne lab z) := by unfold hidL; rw [List.foldl_append]; rfl
      have hsel : (bif Ar.std.zeq z.2.1 lab then some 0 else some z.2.1 : Option Int) = some (hidOne lab z).2.1 := by
        unfold hidOne
        rw [std_zeq]
        cases decide (z.2.1 = lab) <;> rfl
      have hc : R101 Ar.std (eSt (hidL (l.take i) lab)) z.1 (hidOne lab z).2.1 z.2.2 = some (eSt (addS (hidL (l.take i) lab) (hidOne lab z))) := R101_eq _ hle (hidOne lab z)
      unfold R54L0
      try dsimp only
      rw [ltS hi, cond_true, gt_enc hz, bsome]
      try dsimp only
      rw [hsel, bsome, hc, bsome, inc hi hlg, hsn])
    (by
      unfold R54L0
      try dsimp only
      rw [geS, cond_false])
  exact key
theorem R54_eq (n : Int) (l : List St3) (hl : l.length < Lg) (lab : Int) : R54 Ar.std n (eSt l) lab = some ((hidR n l lab).1, eSt (hidR n l lab).2.1, (hidR n l lab).2.2) := by
  unfold R54 hidR
  rw [R34_eq n l hl, bsome]
  cases hv : vSys n l with
  | false => rfl
  | true =>
    have hle := (vSys_st hv).2.1
    rw [cond_true, cond_true, R63_eq, bsome]
    cases btw 1 lab 3 with
    | false => rfl
    | true => rw [cond_true, cond_true, R54L0_eq l (by omega), bsome]
def wthR (n : Int) (l : List St3) (i : Int) : Int × List St3 × Int := bif vSys n l then bif decide (i < 0) || decide ((l.length : Int) ≤ i) then (0, [], 2) else (n, l.eraseIdx i.toNat, 0) else (0, [], 50)
theorem R45_all (n : Int) (l : List St3) (hl : l.length < Lg) (i : Int) : R45 Ar.std n (eSt l) i = some ((wthR n l i).1, eSt (wthR n l i).2.1, (wthR n l i).2.2) := by
  cases hv : vSys n l with
  | false =>
    unfold R45 wthR
    rw [R33_eq n l hl, bsome, hv]; rfl
  | true =>
    by_cases h1 : i < 0
    · have h1' : Ar.std.zlt i 0 = true := by rw [std_zlt]; exact decide_eq_true h1
      unfold R45 wthR
      rw [R33_eq n l hl, bsome, hv, cond_true, cond_true, h1', decide_eq_true h1]; rfl
    · by_cases h2 : (l.length : Int) ≤ i
      · have h1' : Ar.std.zlt i 0 = false := by rw [std_zlt]; exact decide_eq_false h1
        have h2' : Ar.std.zle (Ar.std.len (eSt l)) i = true := by rw [std_zle, len_enc]; exact decide_eq_true h2
        unfold R45 wthR
        rw [R33_eq n l hl, bsome, hv, cond_true, cond_true, h1', h2', decide_eq_false h1, decide_eq_true h2]; rfl
      · obtain ⟨k, rfl⟩ := Int.eq_ofNat_of_zero_le (by omega : 0 ≤ i)
        rw [R45_eq n l hl hv k (by omega)]
        unfold wthR
        rw [hv, decide_eq_false h1, decide_eq_false h2]; rfl
theorem R55_eq (n : Int) (l : List St3) (hl : l.length < Lg) (i : Int) : R55 Ar.std n (eSt l) i = some ((wthR n l i).1, eSt (wthR n l i).2.1, (wthR n l i).2.2) := by
  unfold R55 wthR
  rw [R34_eq n l hl, bsome]
  cases hv : vSys n l with
  | false => rfl
  | true =>
    have hle := (vSys_st hv).2.1
    rw [cond_true, cond_true]
    by_cases h1 : i < 0
    · have h1' : Ar.std.zlt i 0 = true := by rw [std_zlt]; exact decide_eq_true h1
      rw [h1', decide_eq_true h1]; rfl
    · have h1' : Ar.std.zlt i 0 = false := by rw [std_zlt]; exact decide_eq_false h1
      by_cases h2 : (l.length : Int) ≤ i
      · have h2' : Ar.std.zle (Ar.std.len (eSt l)) i = true := by rw [std_zle, len_enc]; exact decide_eq_true h2
        rw [h1', h2', decide_eq_false h1, decide_eq_true h2]; rfl
      · have h2' : Ar.std.zle (Ar.std.len (eSt l)) i = false := by rw [std_zle, len_enc]; exact decide_eq_false h2
        obtain ⟨k, rfl⟩ := Int.eq_ofNat_of_zero_le (by omega : 0 ≤ i)
        have hk : k < l.length := by omega
        have e1 : sl Ar.std (eSt l) 0 (k : Int) = some (eSt (l.take k)) := sl_encT (by omega)
        have e2 : ap Ar.std [] (eSt (l.take k)) = some (eSt (l.take k)) := ap_enc0 (by simp; omega)
        have hw : Ar.std.wrp .i64 (Ar.std.zadd (k : Int) 1) = ((k + 1 : Nat) : Int) := inc hk hl
        have e3 : sl Ar.std (eSt l) ((k + 1 : Nat) : Int) (l.length : Int) = some (eSt (l.drop (k + 1))) := by
          have := sl_enc (c := cG (lc (cI .i64) (lc (cI .i64) (l1 (cI .i64))))) (l := l) (lo := ((k + 1 : Nat) : Int)) (hi := (l.length : Int)) (by omega) (by omega) (by omega)
          have e : (l.drop ((k + 1 : Nat) : Int).toNat).take ((l.length : Int).toNat - ((k + 1 : Nat) : Int).toNat) = l.drop (k + 1) := by
            rw [Int.toNat_natCast, Int.toNat_natCast]
            exact List.take_of_length_le (by simp)
          rw [e] at this; exact this
        have e4 : ap Ar.std (eSt (l.take k)) (eSt (l.drop (k + 1))) = some (eSt (l.take k ++ l.drop (k + 1))) := ap_enc (by simp; omega)
        rw [h1', cond_false, h2', bsome, cond_false, e1, bsome, e2, bsome, hw, len_enc, e3, bsome, e4, bsome, decide_eq_false h1, decide_eq_false h2, Int.toNat_natCast, List.eraseIdx_eq_take_drop_succ]
        rfl
theorem R105_eq (n : Int) (l : List St3) (hl : l.length < Lg) (z : St3) : R105 Ar.std n (eSt l) z.1 z.2.1 z.2.2 = some (l.contains z) := by
  have key := iter_any (step := R105L0 Ar.std (eSt l) z.1 z.2.1 z.2.2) l (fun y => decide (z = y)) (.inr ()) (.inl ()) (fun i y hy hi => by
      have hsel : (bif Ar.std.zeq y.1 z.1 then bif Ar.std.zeq y.2.1 z.2.1 then some (Ar.std.zeq y.2.2 z.2.2) else some false else some false : Option Bool) = some (decide (z = y)) := by
        rw [std_zeq, std_zeq, std_zeq]
        obtain ⟨y1, y2, y3⟩ := y
        obtain ⟨z1, z2, z3⟩ := z
        simp only [Prod.mk.injEq]
        by_cases h1 : y1 = z1
        · by_cases h2 : y2 = z2
          · by_cases h3 : y3 = z3
            · simp [h1, h2, h3]
            · simp [h1, h2, h3, Ne.symm h3]
          · simp [h1, h2, Ne.symm h2]
        · simp [h1, Ne.symm h1]
      unfold R105L0
      try dsimp only
      rw [ltS hi, cond_true, gt_enc hy, bsome]
      try dsimp only
      rw [hsel, bsome, inc hi hl]
      cases decide (z = y) <;> rfl) (by
      unfold R105L0
      try dsimp only
      rw [geS, cond_false])
  rw [any_contains] at key
  unfold R105
  rw [key, bsome]
  cases l.contains z <;> rfl
def isTog (l : List St3) (n : Nat) (l' : List St3) (a lab b : Nat) : Bool :=
  bif decide (lab = 0) then (l.contains (((a / n : Nat) : Int), (lab : Int), ((b / n : Nat) : Int)) && decide (a % n = b % n)) || (l'.contains (((a % n : Nat) : Int), (lab : Int), ((b % n : Nat) : Int)) && decide (a / n = b / n))
  else l.contains (((a / n : Nat) : Int), (lab : Int), ((b / n : Nat) : Int)) && l'.contains (((a % n : Nat) : Int), (lab : Int), ((b % n : Nat) : Int))
def tz (a lab b : Nat) : St3 := ((a : Int), (lab : Int), (b : Int))
def tog0 (l : List St3) (n : Nat) (l' : List St3) (a lab : Nat) (bs : List Nat) : List St3 := (bs.filter (isTog l n l' a lab)).map (tz a lab)
def tog1 (l : List St3) (n : Nat) (l' : List St3) (N a : Nat) (labs : List Nat) : List St3 := labs.flatMap fun lab => tog0 l n l' a lab (List.range N)
def tog2 (l : List St3) (n : Nat) (l' : List St3) (N : Nat) (as : List Nat) : List St3 := as.flatMap fun a => tog1 l n l' N a (List.range 4)
def togL (m : Nat) (l : List St3) (n : Nat) (l' : List St3) : List St3 := tog2 l n l' (m * n) (List.range (m * n))
theorem mem_togL {m : Nat} {l : List St3} {n : Nat} {l' : List St3} {z : St3} : z ∈ togL m l n l' ↔ ∃ a lab b, a < m * n ∧ lab < 4 ∧ b < m * n ∧ isTog l n l' a lab b = true ∧ z = tz a lab b := by
  unfold togL tog2 tog1 tog0
  simp only [List.mem_flatMap, List.mem_map, List.mem_filter, List.mem_range]
  constructor
  · rintro ⟨a, ha, lab, hlab, b, ⟨hb, hc⟩, rfl⟩; exact ⟨a, lab, b, ha, hlab, hb, hc, rfl⟩
  · rintro ⟨a, lab, b, ha, hlab, hb, hc, rfl⟩; exact ⟨a, ha, lab, hlab, b, ⟨hb, hc⟩, rfl⟩
theorem pw_flatMap {α : Type} {R : St3 → St3 → Prop} {f : α → List St3} : ∀ {l : List α}, (∀ a ∈ l, (f a).Pairwise R) → l.Pairwise (fun a b => ∀ x ∈ f a, ∀ y ∈ f b, R x y) → (l.flatMap f).Pairwise R
  | [], _, _ => .nil
  | a :: l, h, hp => by
    rw [List.flatMap_cons, List.pairwise_append]
    rw [List.pairwise_cons] at hp
    refine ⟨h a (by simp), pw_flatMap (fun b hb => h b (by simp [hb])) hp.2, fun x hx y hy => ?_⟩
    obtain ⟨b, hb, hy⟩ := List.mem_flatMap.1 hy
    exact hp.1 b hb x hx y hy
theorem range_lt (n : Nat) : (List.range n).Pairwise (· < ·) := List.pairwise_lt_range
theorem togL_pw (m : Nat) (l : List St3) (n : Nat) (l' : List St3) : (togL m l n l').Pairwise ltSt := by
  refine pw_flatMap (fun a _ => pw_flatMap (fun lab _ => ?_) ?_) ?_
  · unfold tog0
    rw [List.pairwise_map]
    refine ((range_lt _).filter _).imp fun h => ?_
    exact Or.inr ⟨rfl, Or.inr ⟨rfl, Int.ofNat_lt.2 h⟩⟩
  · refine (range_lt _).imp fun h x hx y hy => ?_
    obtain ⟨b, _, rfl⟩ := List.mem_map.1 hx
    obtain ⟨b', _, rfl⟩ := List.mem_map.1 hy
    exact Or.inr ⟨rfl, Or.inl (Int.ofNat_lt.2 h)⟩
  · refine (range_lt _).imp fun h x hx y hy => ?_
    obtain ⟨lab, _, hx⟩ := List.mem_flatMap.1 hx
    obtain ⟨lab', _, hy⟩ := List.mem_flatMap.1 hy
    obtain ⟨b, _, rfl⟩ := List.mem_map.1 hx
    obtain ⟨b', _, rfl⟩ := List.mem_map.1 hy
    exact Or.inl (Int.ofNat_lt.2 h)
theorem pw_nodup {l : List St3} (h : l.Pairwise ltSt) : l.Nodup := h.imp fun {a b} hab e => by subst e; exact ltSt_irr hab
theorem sortSt_pw {l : List St3} (h : l.Nodup) : (sortSt l).Pairwise ltSt := by
  have hs := List.pairwise_mergeSort (le := fun x y => !ltF cmpF y x) (fun a b c h1 h2 => by
    simp only [ltF_cmp, Bool.not_eq_true', decide_eq_false_iff_not] at *
    intro h3
    by_cases h4 : ltSt b a
    · exact h1 h4
    · by_cases h5 : ltSt a b
      · exact h2 (ltSt_trans h3 h5)
      · have := ltSt_tot h5 h4
        subst this; exact h2 h3) (fun a b => by
    simp only [ltF_cmp, Bool.or_eq_true, Bool.not_eq_true', decide_eq_false_iff_not]
    by_cases h4 : ltSt b a
    · exact .inr fun h5 => ltSt_irr (ltSt_trans h4 h5)
    · exact .inl h4) l
  have hn : (sortSt l).Nodup := (sortSt_perm l).nodup_iff.2 h
  refine (List.Pairwise.and hs hn).imp fun {a b} hab => ?_
  obtain ⟨h1, h2⟩ := hab
  simp only [ltF_cmp, Bool.not_eq_true', decide_eq_false_iff_not] at h1
  by_cases h3 : ltSt a b
  · exact h3
  · exact absurd (ltSt_tot h3 h1) h2
theorem eq_of_pw {a b : List St3} (ha : a.Pairwise ltSt) (hb : b.Pairwise ltSt) (h : ∀ z, z ∈ a ↔ z ∈ b) : a = b := by
  have hp : a.Perm b := (List.perm_ext_iff_of_nodup (pw_nodup ha) (pw_nodup hb)).2 h
  exact hp.eq_of_pairwise (le := ltSt) (fun x y _ _ h1 h2 => absurd (ltSt_trans h1 h2) ltSt_irr) ha hb
section
variable {m n : Nat} {l l' : List St3} (hv : vSys (m : Int) l = true) (hv' : vSys (n : Int) l' = true) (S : Sys m l) (S' : Sys n l') (hmn : m * n ≤ 6)
include hv hv' S S' hmn
theorem togL_both : togL m l n l' = bothS' m l n l' := by
  refine eq_of_pw (togL_pw m l n l') (sortSt_pw (bothL_nodup m l n l')) (fun z => ?_)
  show z ∈ togL m l n l' ↔ z ∈ bothS' m l n l'
  rw [bothS_mem, mem_togL]
  constructor
  · rintro ⟨a, lab, b, ha, hlab, hb, hc, rfl⟩
    obtain ⟨i, k, hi, hk, rfl⟩ := pair_of ha
    obtain ⟨i', k', hi', hk', rfl⟩ := pair_of hb
    unfold isTog at hc
    rw [pair_div hk, pair_div hk', pair_mod hk, pair_mod hk'] at hc
    have hB : ∀ z, z ∈ bothL m l n l' ↔ Tog m l n l' z := fun z => bothL_mem
    by_cases h0 : lab = 0
    · subst h0
      rw [decide_eq_true rfl, cond_true, Bool.or_eq_true, Bool.and_eq_true, Bool.and_eq_true, decide_eq_true_eq, decide_eq_true_eq, List.contains_iff_mem, List.contains_iff_mem] at hc
      rcases hc with ⟨hx, rfl⟩ | ⟨hy, rfl⟩
      · exact (hB _).1 (togS hB hx hk)
      · exact (hB _).1 (togT hB hy hi)
    · rw [decide_eq_false h0, cond_false, Bool.and_eq_true, List.contains_iff_mem, List.contains_iff_mem] at hc
      exact (hB _).1 (togA hB (by omega) hc.1 hc.2)
  · intro h
    have hB : ∀ z, z ∈ bothL m l n l' ↔ Tog m l n l' z := fun z => bothL_mem
    obtain ⟨i, k, i', k', ⟨g1, g2, g3, g4⟩, e1, e2, ⟨h3, h4⟩, hc⟩ := tog_dec hv hv' S S' hmn hB ((hB z).2 h)
    obtain ⟨z1, z2, z3⟩ := z
    simp only at e1 e2 h3 h4 hc
    subst e1; subst e2
    obtain ⟨lab, rfl⟩ := Int.eq_ofNat_of_zero_le h3
    refine ⟨i * n + k, lab, i' * n + k', pair_lt g1 g2, by omega, pair_lt g3 g4, ?_, rfl⟩
    unfold isTog
    rw [pair_div g2, pair_div g4, pair_mod g2, pair_mod g4]
    rcases hc with ⟨h0, hx, hy⟩ | ⟨h0, hx, rfl⟩ | ⟨h0, rfl, hy⟩
    · rw [decide_eq_false (by omega), cond_false, List.contains_iff_mem.2 hx, List.contains_iff_mem.2 hy]; rfl
    · have : lab = 0 := by omega
      subst this
      have hx' : l.contains ((i : Int), ((0 : Nat) : Int), (i' : Int)) = true := List.contains_iff_mem.2 hx
      rw [decide_eq_true rfl, cond_true, hx', decide_eq_true rfl]; rfl
    · have : lab = 0 := by omega
      subst this
      have hy' : l'.contains ((k : Int), ((0 : Nat) : Int), (k' : Int)) = true := List.contains_iff_mem.2 hy
      rw [decide_eq_true rfl, cond_true, hy', decide_eq_true rfl, Bool.and_true, Bool.or_true]
omit hv hv' in
theorem R57L0_eq {a lab : Nat} (ha : a < m * n) (hlab : lab < 4) {out : List St3} (ho : out.length ≤ 1000) (hl : l.length < Lg) (hl' : l'.length < Lg) :
    iter (R57L0 Ar.std m (eSt l) n (eSt l') a lab) (eSt out, 0) = some (eSt (out ++ tog0 l n l' a lab (List.range (m * n)))) := by
  have hn0 : 0 < n := S'.pos
  have hm6 := S.le
  have hn6 := S'.le
  have hw : Ar.std.wrp .i64 (Ar.std.zmul (m : Int) (n : Int)) = ((m * n : Nat) : Int) := by
    rw [std_zmul, ← Int.natCast_mul, std_wrp, i64w _ (by omega) (by omega)]
  have hnk : nk (Ar.std.zeq (n : Int) 0) = some () := by rw [std_zeq, decide_eq_false (by omega)]; rfl
  have hq : ∀ x : Nat, x < m * n → Ar.std.quo .i64 (x : Int) (n : Int) = ((x / n : Nat) : Int) := fun x hx => by
    rw [std_quo]
    have : (x : Int).tdiv (n : Int) = ((x / n : Nat) : Int) := by rw [Int.tdiv_eq_ediv_of_nonneg (by omega)]; rfl
    have hle : x / n ≤ x := Nat.div_le_self _ _
    rw [this]
    generalize x / n = q at hle
    exact i64w _ (by omega) (by omega)
  have hr : ∀ x : Nat, Ar.std.rem (x : Int) (n : Int) = ((x % n : Nat) : Int) := fun x => by
    rw [std_rem, Int.tmod_eq_emod_of_nonneg (by omega)]; rfl
  have key := iter_pre (step := R57L0 Ar.std m (eSt l) n (eSt l') a lab) (List.range (m * n)) (fun pre => out ++ tog0 l n l' a lab pre) (fun s k => (eSt s, (k : Int))) (fun s => eSt s)
    (fun b y hy hi => by
      have hb : b < m * n := by simpa using hi
      have hyb : y = b := by
        rw [List.getElem?_range hb] at hy
        exact (Option.some.inj hy).symm
      subst hyb
      have hlt : Ar.std.zlt (y : Int) ((m * n : Nat) : Int) = true := by rw [std_zlt]; exact decide_eq_true (by omega)
      have hlen : (out ++ tog0 l n l' a lab ((List.range (m * n)).take y)).length < 4294967295 := by
        have h1 : (tog0 l n l' a lab ((List.range (m * n)).take y)).length ≤ ((List.range (m * n)).take y).length := by
          unfold tog0; rw [List.length_map]; exact List.length_filter_le _ _
        simp at h1 ⊢; omega
      have hsn : out ++ tog0 l n l' a lab ((List.range (m * n)).take y ++ [y]) = bif isTog l n l' a lab y then (out ++ tog0 l n l' a lab ((List.range (m * n)).take y)) ++ [tz a lab y] else out ++ tog0 l n l' a lab ((List.range (m * n)).take y) := by
        unfold tog0
        rw [List.filter_append, List.map_append, ← List.append_assoc]
        cases hc : isTog l n l' a lab y <;> simp [List.filter, hc]
      have hap : ap Ar.std (eSt (out ++ tog0 l n l' a lab ((List.range (m * n)).take y))) [.agg [.int .i64 (a : Int), .int .i64 (lab : Int), .int .i64 (y : Int)]] = some (eSt ((out ++ tog0 l n l' a lab ((List.range (m * n)).take y)) ++ [tz a lab y])) := ap_enc1 (a := tz a lab y) rfl hlen
      have e1 := R105_eq (m : Int) l hl (((a / n : Nat) : Int), (lab : Int), ((y / n : Nat) : Int))
      have e2 := R105_eq (n : Int) l' hl' (((a % n : Nat) : Int), (lab : Int), ((y % n : Nat) : Int))
      have z1 : Ar.std.zeq ((a % n : Nat) : Int) ((y % n : Nat) : Int) = decide (a % n = y % n) := by rw [std_zeq]; exact decide_eq_decide.2 (by omega)
      have z2 : Ar.std.zeq ((a / n : Nat) : Int) ((y / n : Nat) : Int) = decide (a / n = y / n) := by rw [std_zeq]; exact decide_eq_decide.2 (by omega)
      have z3 : Ar.std.zeq (lab : Int) 0 = decide (lab = 0) := by rw [std_zeq]; exact decide_eq_decide.2 (by omega)
      unfold R57L0
      try dsimp only
      rw [hw, hlt, cond_true, hnk, bsome, bsome, hq a ha, hq y hb, e1, bsome, bsome, bsome, hr, hr, e2, bsome, inc hb (Nat.lt_of_le_of_lt hmn (by decide)), hsn, z1, z2, z3, bsome, bsome, bsome]
      rw [hap]
      unfold isTog
      cases l.contains (((a / n : Nat) : Int), (lab : Int), ((y / n : Nat) : Int)) <;> cases l'.contains (((a % n : Nat) : Int), (lab : Int), ((y % n : Nat) : Int)) <;> cases decide (lab = 0) <;> cases decide (a % n = y % n) <;> cases decide (a / n = y / n) <;> rfl)
    (by
      unfold R57L0
      try dsimp only
      rw [hw, List.length_range, geN, cond_false])
  have e0 : out ++ tog0 l n l' a lab [] = out := by simp [tog0]
  rw [e0] at key
  exact key
omit hv hv' S S' in
theorem tog0_len (a lab : Nat) : (tog0 l n l' a lab (List.range (m * n))).length ≤ 6 := by
  unfold tog0
  rw [List.length_map]
  have := List.length_filter_le (isTog l n l' a lab) (List.range (m * n))
  simp at this; omega
omit hv hv' S S' in
theorem tog1_len (a : Nat) : ∀ labs : List Nat, (tog1 l n l' (m * n) a labs).length ≤ 6 * labs.length
  | [] => by simp [tog1]
  | lab :: labs => by
    have h1 := tog1_len a labs
    have h2 := tog0_len (l := l) (l' := l') (m := m) (n := n) hmn a lab
    unfold tog1 at h1 ⊢
    rw [List.flatMap_cons, List.length_append, List.length_cons]; omega
omit hv hv' S S' in
theorem tog2_len : ∀ as : List Nat, (tog2 l n l' (m * n) as).length ≤ 24 * as.length
  | [] => by simp [tog2]
  | a :: as => by
    have h1 := tog2_len as
    have h2 := tog1_len (l := l) (l' := l') (m := m) (n := n) hmn a (List.range 4)
    unfold tog2 at h1 ⊢
    rw [List.flatMap_cons, List.length_append, List.length_cons]
    simp at h2; omega
omit hv hv' in
theorem R57L1_eq {a : Nat} (ha : a < m * n) {out : List St3} (ho : out.length ≤ 900) (hl : l.length < Lg) (hl' : l'.length < Lg) :
    iter (R57L1 Ar.std m (eSt l) n (eSt l') a) (eSt out, 0) = some (eSt (out ++ tog1 l n l' (m * n) a (List.range 4))) := by
  have key := iter_pre (step := R57L1 Ar.std m (eSt l) n (eSt l') a) (List.range 4) (fun pre => out ++ tog1 l n l' (m * n) a pre) (fun s k => (eSt s, (k : Int))) (fun s => eSt s)
    (fun b y hy hi => by
      have hb : b < 4 := by simpa using hi
      have hyb : y = b := by
        rw [List.getElem?_range hb] at hy
        exact (Option.some.inj hy).symm
      subst hyb
      have hlt : Ar.std.zlt (y : Int) 4 = true := by rw [std_zlt]; exact decide_eq_true (by omega)
      have hlen := tog1_len (l := l) (l' := l') (m := m) (n := n) hmn a ((List.range 4).take y)
      have hsn : out ++ tog1 l n l' (m * n) a ((List.range 4).take y ++ [y]) = (out ++ tog1 l n l' (m * n) a ((List.range 4).take y)) ++ tog0 l n l' a y (List.range (m * n)) := by
        unfold tog1
        rw [List.flatMap_append, List.append_assoc]
        simp
      have e0 := R57L0_eq S S' hmn (l := l) (l' := l') ha hb (out := out ++ tog1 l n l' (m * n) a ((List.range 4).take y)) (by have h6 : ((List.range 4).take y).length ≤ 4 := Nat.le_trans (List.length_take_le _ _) (by omega); rw [List.length_append]; omega) hl hl'
      unfold R57L1
      try dsimp only
      rw [hlt, cond_true, e0, bsome, inc hb (by decide), hsn])
    (by
      unfold R57L1
      try dsimp only
      have hlt : Ar.std.zlt (((List.range 4).length : Nat) : Int) 4 = false := by rw [std_zlt]; rfl
      rw [hlt, cond_false])
  have e0 : out ++ tog1 l n l' (m * n) a [] = out := by simp [tog1]
  rw [e0] at key
  exact key
omit hv hv' in
theorem R57L2_eq (hl : l.length < Lg) (hl' : l'.length < Lg) : iter (R57L2 Ar.std m (eSt l) n (eSt l')) ([], 0) = some (eSt (togL m l n l')) := by
  have hm6 := S.le
  have hn6 := S'.le
  have hw : Ar.std.wrp .i64 (Ar.std.zmul (m : Int) (n : Int)) = ((m * n : Nat) : Int) := by
    rw [std_zmul, ← Int.natCast_mul, std_wrp, i64w _ (by omega) (by omega)]
  have key := iter_pre (step := R57L2 Ar.std m (eSt l) n (eSt l')) (List.range (m * n)) (fun pre => tog2 l n l' (m * n) pre) (fun s k => (eSt s, (k : Int))) (fun s => eSt s)
    (fun b y hy hi => by
      have hb : b < m * n := by simpa using hi
      have hyb : y = b := by
        rw [List.getElem?_range hb] at hy
        exact (Option.some.inj hy).symm
      subst hyb
      have hlen := tog2_len (l := l) (l' := l') (m := m) (n := n) hmn ((List.range (m * n)).take y)
      have hsn : tog2 l n l' (m * n) ((List.range (m * n)).take y ++ [y]) = tog2 l n l' (m * n) ((List.range (m * n)).take y) ++ tog1 l n l' (m * n) y (List.range 4) := by
        unfold tog2
        rw [List.flatMap_append]
        simp
      have e0 := R57L1_eq S S' hmn (l := l) (l' := l') hb (out := tog2 l n l' (m * n) ((List.range (m * n)).take y)) (Nat.le_trans hlen (by have h6 : ((List.range (m * n)).take y).length ≤ 6 := Nat.le_trans (List.length_take_le _ _) (by omega); omega)) hl hl'
      unfold R57L2
      try dsimp only
      rw [hw, ltN hb, cond_true, e0, bsome, inc hb (Nat.lt_of_le_of_lt hmn (by decide)), hsn])
    (by
      unfold R57L2
      try dsimp only
      rw [hw, List.length_range, geN, cond_false])
  exact key
end
theorem R57_ok {m n : Nat} {l l' : List St3} (hv : vSys (m : Int) l = true) (hv' : vSys (n : Int) l' = true) (S : Sys m l) (S' : Sys n l') (hl : l.length < Lg) (hl' : l'.length < Lg) :
    R57 Ar.std (m : Int) (eSt l) (n : Int) (eSt l') = some ((bothR m l n l').1, eSt (bothR m l n l').2.1, (bothR m l n l').2.2) := by
  have hm6 := S.le
  have hn6 := S'.le
  have hmn36 : m * n ≤ 36 := Nat.mul_le_mul hm6 hn6
  have hw : Ar.std.wrp .i64 (Ar.std.zmul (m : Int) (n : Int)) = ((m * n : Nat) : Int) := by
    rw [std_zmul, ← Int.natCast_mul, std_wrp, i64w _ (by omega) (by omega)]
  have hlim : Ar.std.zlt 6 ((m * n : Nat) : Int) = decide (6 < m * n) := by rw [std_zlt]; exact decide_eq_decide.2 (by omega)
  unfold R57 bothR
  rw [R34_eq _ l hl, bsome, hv, cond_true, R34_eq _ l' hl', bsome, hv', Bool.not_true, bsome, cond_false, hw, hlim]
  cases h6 : decide (6 < m * n) with
  | true => rfl
  | false =>
    have hmn : m * n ≤ 6 := by have := of_decide_eq_false h6; omega
    have hbl : (bothS' m l n l').length = (bothL m l n l').length := sortSt_len _
    rw [cond_false, R57L2_eq S S' hmn hl hl', bsome, togL_both hv hv' S S' hmn]
    have hlb : Ar.std.zlt 24 (Ar.std.len (eSt (bothS' m l n l'))) = decide (24 < (bothL m l n l').length) := by rw [std_zlt, len_enc, hbl]; exact decide_eq_decide.2 (by omega)
    rw [hlb, Bool.false_or]
    cases decide (24 < (bothL m l n l').length) <;> rfl
theorem both_same (n n' : Int) (l l' : List St3) (hl : l.length < Lg) (hl' : l'.length < Lg) : ∃ (x : Int) (b : List St3) (e : Int), b.length < Lg ∧ R56 Ar.std n (eSt l) n' (eSt l') = some (x, eSt b, e) ∧ R57 Ar.std n (eSt l) n' (eSt l') = some (x, eSt b, e) := by
  cases hv : vSys n l with
  | false =>
    refine ⟨0, [], 50, by decide, ?_, ?_⟩
    · unfold R56; rw [R33_eq n l hl, bsome, hv, cond_false, bsome, cond_true]; rfl
    · unfold R57; rw [R34_eq n l hl, bsome, hv, cond_false, bsome, cond_true]; rfl
  | true =>
    cases hv' : vSys n' l' with
    | false =>
      refine ⟨0, [], 50, by decide, ?_, ?_⟩
      · unfold R56; rw [R33_eq n l hl, bsome, hv, cond_true, R33_eq n' l' hl', bsome, hv', Bool.not_false, bsome, cond_true]; rfl
      · unfold R57; rw [R34_eq n l hl, bsome, hv, cond_true, R34_eq n' l' hl', bsome, hv', Bool.not_false, bsome, cond_true]; rfl
    | true =>
      obtain ⟨m, rfl, S⟩ := Sys.of hv
      obtain ⟨k, rfl, S'⟩ := Sys.of hv'
      refine ⟨_, _, _, ?_, R56_ok hv hv' S S' hl hl', R57_ok hv hv' S S' hl hl'⟩
      unfold bothR
      cases hc : (decide (6 < m * k) || decide (24 < (bothL m l k l').length)) with
      | true => exact (by decide : (0 : Nat) < Lg)
      | false =>
        rw [Bool.or_eq_false_iff, decide_eq_false_iff_not, decide_eq_false_iff_not] at hc
        show (bothS' m l k l').length < Lg
        unfold bothS'
        rw [sortSt_len]
        exact Nat.lt_of_le_of_lt (Nat.le_of_not_lt hc.2) (by decide)
theorem R14_ok (n n' : Int) (l l' : List St3) (hl : l.length < Lg) (hl' : l'.length < Lg) (lab i : Int) : R14 Ar.std n (eSt l) n' (eSt l') lab i = some true := by
  unfold R14
  rw [R16_eq, bsome]
  cases h1 : decide ((100 : Int) < l.length) with
  | true => rw [cond_true, bsome, cond_true, R17_eq]; rfl
  | false =>
    rw [cond_false, R16_eq, bsome, bsome]
    cases h2 : decide ((100 : Int) < l'.length) with
    | true => rw [cond_true, R17_eq]; rfl
    | false =>
      have hle : l.length ≤ 100 := by have := of_decide_eq_false h1; omega
      have hh : (hidR n l lab).2.1.length < Lg := by
        unfold hidR
        cases vSys n l <;> cases btw 1 lab 3 <;> first | exact (by decide : (0 : Nat) < Lg) | exact Nat.lt_of_le_of_lt (hidL_len l lab) hl
      have hw : (wthR n l i).2.1.length < Lg := by
        unfold wthR
        cases vSys n l <;> cases (decide (i < 0) || decide ((l.length : Int) ≤ i)) <;> first | exact (by decide : (0 : Nat) < Lg) | exact Nat.lt_of_le_of_lt (List.eraseIdx_sublist l i.toNat).length_le hl
      obtain ⟨x, b, e, hb, e1, e2⟩ := both_same n n' l l' hl hl'
      rw [cond_false, R43_eq n l hl, bsome]
      try dsimp only
      rw [R54_eq n l hl, bsome]
      try dsimp only
      rw [R30_same _ _ hh, bsome, cond_true, zeqS, Bool.not_true, bsome, cond_false, R45_all n l hl, bsome]
      try dsimp only
      rw [R55_eq n l hl, bsome]
      try dsimp only
      rw [R30_same _ _ hw, bsome, cond_true, zeqS, Bool.not_true, bsome, cond_false, e1, bsome]
      try dsimp only
      rw [e2, bsome]
      try dsimp only
      rw [R30_same _ _ hb, bsome, cond_true, zeqS, cond_true, R17_eq]; rfl
end Go.Am
