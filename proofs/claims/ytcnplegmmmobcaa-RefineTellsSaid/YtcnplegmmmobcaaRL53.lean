/- Own text: RL53. -/
import Derived.Test.YtcnplegmmmobcaaRL36
set_option maxRecDepth 100000
set_option linter.unusedVariables false
set_option linter.unusedSimpArgs false
set_option linter.unusedSectionVars false
namespace Go.Am
open Go
theorem prevW {i : Nat} (h : 0 < i) (h2 : i < Lg) : Ar.std.wrp .i64 (Ar.std.zsub (i : Int) 1) = ((i - 1 : Nat) : Int) := by
  have h2' : i < 9223372036854775808 := h2
  rw [std_wrp, std_zsub, wrapS (by omega) (by omega)]; omega
end Go.Am

set_option maxRecDepth 100000
set_option linter.unusedVariables false
set_option linter.unusedSimpArgs false
set_option linter.unusedSectionVars false
namespace Go.Am
open Go
theorem orAll_test (g : Nat → Nat) (l : List Nat) (z : Nat) : (orAll g l).testBit z = l.any fun y => (g y).testBit z := by
  induction l with
  | nil => simp [orAll]
  | cons a l ih => rw [orAll_cons, Nat.testBit_or, ih, List.any_cons]
end Go.Am

set_option maxRecDepth 100000
set_option linter.unusedVariables false
set_option linter.unusedSimpArgs false
set_option linter.unusedSectionVars false
namespace Go.Am
open Go
def part (k : Nat) (f : Nat → Nat) (x : Nat) : Nat := if x < k then f x else 0
end Go.Am

set_option maxRecDepth 100000
set_option linter.unusedVariables false
set_option linter.unusedSimpArgs false
set_option linter.unusedSectionVars false
namespace Go.Am
open Go
def itr {α : Type} (f : α → α) : Nat → α → α
  | 0, s => s
  | k + 1, s => itr f k (f s)
theorem itr_fix {α : Type} {f : α → α} {s : α} (h : f s = s) : ∀ k, itr f k s = s
  | 0 => rfl
  | k + 1 => by rw [itr, h]; exact itr_fix h k
def clr (a y : Nat) : Nat := a &&& (63 - 2 ^ y)
theorem clr_all : ∀ (a : Fin 64) (y z : Fin 6), (clr a.val y.val).testBit z.val = (a.val.testBit z.val && !decide (z.val = y.val)) := by decide +kernel
theorem clr_lt (a y : Nat) : clr a y < 64 := Nat.lt_of_le_of_lt Nat.and_le_right (by have := Nat.sub_le 63 (2 ^ y); omega)
theorem high_false {a z : Nat} (h : a < 64) (hz : 6 ≤ z) : a.testBit z = false := Nat.testBit_lt_two_pow (Nat.lt_of_lt_of_le h (Nat.pow_le_pow_right (n := 2) (by decide) hz))
theorem clr_test {a y : Nat} (ha : a < 64) (hy : y < 6) (z : Nat) : (clr a y).testBit z = (a.testBit z && !decide (z = y)) := by
  rcases Nat.lt_or_ge z 6 with hz | hz
  · exact clr_all ⟨a, ha⟩ ⟨y, hy⟩ ⟨z, hz⟩
  · rw [high_false (clr_lt a y) hz, high_false ha hz]; rfl
theorem andNot_u8 : ∀ (a : Fin 64) (y : Fin 6), bitsStd .andNot .u8 ((a.val : Nat) : Int) ((2 ^ y.val : Nat) : Int) = ((clr a.val y.val : Nat) : Int) := by decide +kernel
theorem card_clr {a y : Nat} (ha : a < 64) (hy : y < 6) (h : a.testBit y = true) : card 6 (clr a y) < card 6 a := by
  unfold card
  refine countP_lt (fun z hz => ?_) (List.mem_range.2 hy) ?_ h
  · rw [clr_test ha hy] at hz
    simp only [Bool.and_eq_true] at hz
    exact hz.1
  · rw [clr_test ha hy]; simp
def sizeF (f : Nat → Nat) : Nat := card 6 (f 0) + card 6 (f 1) + card 6 (f 2) + card 6 (f 3) + card 6 (f 4) + card 6 (f 5)
theorem size_upd {f : Nat → Nat} {x v : Nat} (hx : x < 6) (h : card 6 v < card 6 (f x)) : sizeF (upd f x v) < sizeF f := by
  unfold sizeF upd
  match x, hx with
  | 0, _ => simp; omega
  | 1, _ => simp; omega
  | 2, _ => simp; omega
  | 3, _ => simp; omega
  | 4, _ => simp; omega
  | 5, _ => simp; omega
section
variable (K : (Nat → Nat) → Nat → Nat → Bool)
def dwc (x : Nat) (f : Nat → Nat) (y : Nat) : Nat → Nat := bif K f x y then f else upd f x (clr (f x) y)
def dwx (f : Nat → Nat) (x : Nat) : Nat → Nat := (bl (f x)).foldl (dwc K x) f
def dws (m : Nat) (f : Nat → Nat) : Nat → Nat := (List.range m).foldl (dwx K) f
def swc (x : Nat) (s : Bool × (Nat → Nat)) (y : Nat) : Bool × (Nat → Nat) := bif K s.2 x y then s else (true, upd s.2 x (clr (s.2 x) y))
def swx (s : Bool × (Nat → Nat)) (x : Nat) : Bool × (Nat → Nat) := (bl (s.2 x)).foldl (swc K x) s
def sws (m : Nat) (f : Nat → Nat) : Bool × (Nat → Nat) := (List.range m).foldl (swx K) (false, f)
variable {K}
theorem swc_snd (x : Nat) (s : Bool × (Nat → Nat)) (y : Nat) : (swc K x s y).2 = dwc K x s.2 y := by
  unfold swc dwc; cases K s.2 x y <;> rfl
theorem foldl_snd {α β γ : Type} {f : α × β → γ → α × β} {g : β → γ → β} (h : ∀ s c, (f s c).2 = g s.2 c) : ∀ (l : List γ) (s : α × β), (l.foldl f s).2 = l.foldl g s.2
  | [], _ => rfl
  | c :: l, s => by rw [List.foldl_cons, List.foldl_cons, foldl_snd h l, h]
theorem swx_snd (s : Bool × (Nat → Nat)) (x : Nat) : (swx K s x).2 = dwx K s.2 x := foldl_snd (fun s y => swc_snd x s y) _ s
theorem sws_snd (m : Nat) (f : Nat → Nat) : (sws K m f).2 = dws K m f := foldl_snd (fun s x => swx_snd s x) _ (false, f)
theorem dwc_lt {x : Nat} {f : Nat → Nat} {y : Nat} (h : ∀ i, f i < 64) (i : Nat) : dwc K x f y i < 64 := by
  unfold dwc
  cases K f x y with
  | true => exact h i
  | false =>
    show upd f x (clr (f x) y) i < 64
    unfold upd; split
    · exact clr_lt _ _
    · exact h i
theorem fold_ltK {γ : Type} {g : (Nat → Nat) → γ → (Nat → Nat)} (hg : ∀ f c, (∀ i, f i < 64) → ∀ i, g f c i < 64) : ∀ (l : List γ) (f : Nat → Nat), (∀ i, f i < 64) → ∀ i, l.foldl g f i < 64
  | [], f, h => h
  | c :: l, f, h => fold_ltK hg l (g f c) (hg f c h)
theorem dwx_lt {f : Nat → Nat} {x : Nat} (h : ∀ i, f i < 64) : ∀ i, dwx K f x i < 64 := fold_ltK (fun f y h => dwc_lt h) _ f h
theorem dws_lt {m : Nat} {f : Nat → Nat} (h : ∀ i, f i < 64) : ∀ i, dws K m f i < 64 := fold_ltK (fun f x h => dwx_lt h) _ f h
structure Ch (s t : Bool × (Nat → Nat)) : Prop where
  no : t.1 = false → s.1 = false ∧ t.2 = s.2
  yes : t.1 = true → s.1 = true ∨ sizeF t.2 < sizeF s.2
  le : sizeF t.2 ≤ sizeF s.2
theorem Ch.refl (s : Bool × (Nat → Nat)) : Ch s s := ⟨fun h => ⟨h, rfl⟩, fun h => .inl h, Nat.le_refl _⟩
theorem Ch.trans {s t u : Bool × (Nat → Nat)} (h : Ch s t) (h' : Ch t u) : Ch s u := by
  refine ⟨fun hu => ?_, fun hu => ?_, Nat.le_trans h'.le h.le⟩
  · obtain ⟨a, b⟩ := h'.no hu
    obtain ⟨c, d⟩ := h.no a
    exact ⟨c, b.trans d⟩
  · rcases h'.yes hu with a | a
    · rcases h.yes a with b | b
      · exact .inl b
      · exact .inr (Nat.lt_of_le_of_lt h'.le b)
    · exact .inr (Nat.lt_of_lt_of_le a h.le)
theorem swc_fold {x : Nat} (hx : x < 6) : ∀ (ys : List Nat) (s : Bool × (Nat → Nat)), ys.Nodup → (∀ i, s.2 i < 64) → (∀ y ∈ ys, y < 6 ∧ (s.2 x).testBit y = true) →
    Ch s (ys.foldl (swc K x) s) ∧ ((ys.foldl (swc K x) s).1 = false → ∀ y ∈ ys, K s.2 x y = true)
  | [], s, _, _, _ => ⟨Ch.refl s, fun _ y hy => by cases hy⟩
  | y :: ys, s, hn, h64, hy => by
    have hn' := List.nodup_cons.1 hn
    have hy0 := hy y (by simp)
    rw [List.foldl_cons]
    unfold swc
    cases hK : K s.2 x y with
    | true =>
      rw [cond_true]
      have ih := swc_fold hx ys s hn'.2 h64 fun z hz => hy z (by simp [hz])
      refine ⟨ih.1, fun h z hz => ?_⟩
      rcases List.mem_cons.1 hz with rfl | hz
      · exact hK
      · exact ih.2 h z hz
    | false =>
      rw [cond_false]
      have ih := swc_fold hx ys (true, upd s.2 x (clr (s.2 x) y)) hn'.2 (fun i => by
        show upd s.2 x (clr (s.2 x) y) i < 64
        unfold upd; split
        · exact clr_lt _ _
        · exact h64 i) (fun z hz => by
        refine ⟨(hy z (by simp [hz])).1, ?_⟩
        show (upd s.2 x (clr (s.2 x) y) x).testBit z = true
        unfold upd
        have hne : ¬ z = y := fun e => hn'.1 (by rw [← e]; exact hz)
        rw [if_pos rfl, clr_test (h64 x) hy0.1, (hy z (by simp [hz])).2, decide_eq_false hne]; rfl)
      have hc : Ch s (true, upd s.2 x (clr (s.2 x) y)) := by
        have := size_upd hx (card_clr (h64 x) hy0.1 hy0.2)
        exact ⟨fun h => (by cases h), fun _ => .inr this, Nat.le_of_lt this⟩
      refine ⟨hc.trans ih.1, fun h => ?_⟩
      have := (ih.1.no h).1
      cases this
theorem swx_ch {s : Bool × (Nat → Nat)} {x : Nat} (hx : x < 6) (h64 : ∀ i, s.2 i < 64) : Ch s (swx K s x) ∧ ((swx K s x).1 = false → ∀ y ∈ bl (s.2 x), K s.2 x y = true) :=
  swc_fold hx _ s (bl_nodup _) h64 fun y hy => mem_bl.1 hy
theorem swx_fold : ∀ (xs : List Nat) (s : Bool × (Nat → Nat)), (∀ x ∈ xs, x < 6) → (∀ i, s.2 i < 64) →
    Ch s (xs.foldl (swx K) s) ∧ ((xs.foldl (swx K) s).1 = false → ∀ x ∈ xs, ∀ y ∈ bl (s.2 x), K s.2 x y = true)
  | [], s, _, _ => ⟨Ch.refl s, fun _ y hy => by cases hy⟩
  | x :: xs, s, hx, h64 => by
    have h1 := swx_ch (K := K) (s := s) (hx x (by simp)) h64
    have ih := swx_fold xs (swx K s x) (fun z hz => hx z (by simp [hz])) (by rw [swx_snd]; exact dwx_lt h64)
    rw [List.foldl_cons]
    refine ⟨h1.1.trans ih.1, fun h => ?_⟩
    obtain ⟨a, b⟩ := ih.1.no h
    obtain ⟨c, d⟩ := h1.1.no a
    intro z hz
    rcases List.mem_cons.1 hz with rfl | hz
    · exact h1.2 a
    · have := ih.2 h z hz
      rw [d] at this
      exact this
theorem sws_ch {m : Nat} (hm : m ≤ 6) {f : Nat → Nat} (h64 : ∀ i, f i < 64) : Ch (false, f) (sws K m f) ∧ ((sws K m f).1 = false → ∀ x, x < m → ∀ y ∈ bl (f x), K f x y = true) := by
  have h := swx_fold (K := K) (List.range m) (false, f) (fun x hx => by have := List.mem_range.1 hx; omega) h64
  exact ⟨h.1, fun hh x hx => h.2 hh x (List.mem_range.2 hx)⟩
theorem dws_fix {m : Nat} (hm : m ≤ 6) : ∀ (n : Nat) {f : Nat → Nat}, (∀ i, f i < 64) → sizeF f ≤ n → (sws K m (itr (dws K m) n f)).1 = false
  | 0, f, h64, hs => by
    have h := sws_ch (K := K) hm h64
    cases hc : (sws K m f).1 with
    | false => exact hc
    | true =>
      rcases h.1.yes hc with a | a
      · cases a
      · have : sizeF (sws K m f).2 < sizeF f := a
        omega
  | n + 1, f, h64, hs => by
    have h := sws_ch (K := K) hm h64
    cases hc : (sws K m f).1 with
    | false =>
      have hf : dws K m f = f := by rw [← sws_snd]; exact (h.1.no hc).2
      rw [itr_fix hf]; exact hc
    | true =>
      rcases h.1.yes hc with a | a
      · cases a
      · have a' : sizeF (dws K m f) < sizeF f := by rw [← sws_snd]; exact a
        rw [itr]
        exact dws_fix hm n (dws_lt h64) (by omega)
theorem fix_of {m : Nat} (hm : m ≤ 6) {f : Nat → Nat} (h64 : ∀ i, f i < 64) (h : (sws K m f).1 = false) : dws K m f = f := by
  rw [← sws_snd]; exact ((sws_ch hm h64).1.no h).2
def subF (p f : Nat → Nat) : Prop := ∀ x, Wi (p x) (f x)
def isPf (K : (Nat → Nat) → Nat → Nat → Bool) (m : Nat) (f : Nat → Nat) : Prop := ∀ x, x < m → ∀ y ∈ bl (f x), K f x y = true
theorem dwc_sub (hK : ∀ f g x y, subF f g → K f x y = true → K g x y = true) {p f : Nat → Nat} {x y : Nat} (hy : y < 6) (h64 : f x < 64) (hp : ∀ z ∈ bl (p x), K p x z = true) (h : subF p f) : subF p (dwc K x f y) := by
  unfold dwc
  cases hk : K f x y with
  | true => exact h
  | false =>
    intro i
    show Wi (p i) (upd f x (clr (f x) y) i)
    unfold upd
    split
    · rename_i hi
      subst hi
      refine Nat.eq_of_testBit_eq fun z => ?_
      rw [Nat.testBit_or, clr_test h64 hy]
      cases hz : (p i).testBit z with
      | false => rfl
      | true =>
        have h1 := (h i).test hz
        have : z ≠ y := by
          rintro rfl
          have := hK p f i z h (hp z (mem_bl.2 ⟨hy, hz⟩))
          rw [hk] at this; cases this
        rw [h1, decide_eq_false this]; rfl
    · exact h i
theorem dwx_sub (hK : ∀ f g x y, subF f g → K f x y = true → K g x y = true) {p : Nat → Nat} {x : Nat} (hp : ∀ z ∈ bl (p x), K p x z = true) : ∀ (ys : List Nat) {f : Nat → Nat}, (∀ y ∈ ys, y < 6) → (∀ i, f i < 64) → subF p f → subF p (ys.foldl (dwc K x) f)
  | [], f, _, _, h => h
  | y :: ys, f, hy, h64, h => dwx_sub hK hp ys (fun z hz => hy z (by simp [hz])) (dwc_lt h64) (dwc_sub hK (hy y (by simp)) (h64 x) hp h)
theorem dws_sub (hK : ∀ f g x y, subF f g → K f x y = true → K g x y = true) {p : Nat → Nat} : ∀ (xs : List Nat) {f : Nat → Nat}, (∀ x ∈ xs, ∀ z ∈ bl (p x), K p x z = true) → (∀ i, f i < 64) → subF p f → subF p (xs.foldl (dwx K) f)
  | [], f, _, _, h => h
  | x :: xs, f, hp, h64, h => dws_sub hK xs (fun z hz => hp z (by simp [hz])) (dwx_lt h64) (dwx_sub hK (hp x (by simp)) _ (fun y hy => (mem_bl.1 hy).1) h64 h)
theorem itr_sub (hK : ∀ f g x y, subF f g → K f x y = true → K g x y = true) {m : Nat} {p : Nat → Nat} (hp : isPf K m p) : ∀ (k : Nat) {f : Nat → Nat}, (∀ i, f i < 64) → subF p f → subF p (itr (dws K m) k f)
  | 0, f, _, h => h
  | k + 1, f, h64, h => itr_sub hK hp k (dws_lt h64) (dws_sub hK _ (fun x hx => hp x (List.mem_range.1 hx)) h64 h)
end
end Go.Am

set_option maxRecDepth 100000
set_option linter.unusedVariables false
set_option linter.unusedSimpArgs false
set_option linter.unusedSectionVars false
namespace Go.Am
open Go
def badK (m' : Nat) (l' : List St3) (f : Nat → Nat) (x y : Nat) (z : St3) : Bool := decide (z.1 = (x : Int)) && decide (comesN m' l' (2 ^ y) z.2.1 &&& f z.2.2.toNat = 0)
def keepN (l : List St3) (m' : Nat) (l' : List St3) (f : Nat → Nat) (x y : Nat) : Bool := !l.any (badK m' l' f x y)
theorem andS {a b : Nat} (ha : a < 64) (hb : b < 64) : Ar.std.bits .and .u8 (a : Int) (b : Int) = ((a &&& b : Nat) : Int) := by rw [std_bits]; exact and_u8 a b (by omega) (by omega)
def badL (l : List St3) (m' : Nat) (l' : List St3) (f : Nat → Nat) (x y lab : Nat) : Bool := (bl (stepN l (2 ^ x) (lab : Int))).any fun to => decide (f to &&& comesN m' l' (2 ^ y) (lab : Int) = 0)
theorem step_mem {l : List St3} (hl : SOk l) {x lab : Nat} (to : Nat) : to ∈ bl (stepN l (2 ^ x) (lab : Int)) ↔ ∃ z ∈ l, z.2.1 = (lab : Int) ∧ z.1 = (x : Int) ∧ z.2.2 = (to : Int) := by
  rw [mem_bl, stepN_test]
  simp only [List.any_eq_true, goes, Bool.and_eq_true, decide_eq_true_eq, Nat.testBit_two_pow]
  constructor
  · rintro ⟨h6, z, hz, ⟨h1, h2⟩, h3⟩
    have := hl.2 z hz
    exact ⟨z, hz, h1, by omega, by omega⟩
  · rintro ⟨z, hz, h1, h2, h3⟩
    have := hl.2 z hz
    refine ⟨by omega, z, hz, ⟨h1, by omega⟩, by omega⟩
theorem keep_labels {l : List St3} (hl : SOk l) (m' : Nat) (l' : List St3) (f : Nat → Nat) (x y : Nat) : (List.range 4).any (badL l m' l' f x y) = l.any (badK m' l' f x y) := by
  rw [Bool.eq_iff_iff]
  simp only [List.any_eq_true, List.mem_range, badL, badK, Bool.and_eq_true, decide_eq_true_eq]
  constructor
  · rintro ⟨lab, hlab, to, hto, h0⟩
    obtain ⟨z, hz, h1, h2, h3⟩ := (step_mem hl to).1 hto
    refine ⟨z, hz, h2, ?_⟩
    rw [h1, h3, Int.toNat_natCast, Nat.and_comm]; exact h0
  · rintro ⟨z, hz, h1, h2⟩
    have := hl.2 z hz
    have e : ((z.2.1.toNat : Nat) : Int) = z.2.1 := by omega
    refine ⟨z.2.1.toNat, by omega, z.2.2.toNat, (step_mem hl _).2 ⟨z, hz, by omega, h1, by omega⟩, ?_⟩
    rw [e, Nat.and_comm]; exact h2
theorem R99_eq {m m' : Nat} {l l' : List St3} (S : Sys m l) (S' : Sys m' l') {f : Nat → Nat} (hf : ∀ i, f i < 64) {x y : Nat} (hx : x < 6) (hy : y < m') : R99 Ar.std (rU f) (x : Int) (y : Int) (FR m l (tF m l)) (FR m' l' (tF m' l')) = some (keepN l m' l' f x y) := by
  have hm' := S'.le
  have hy6 : y < 6 := by omega
  have key := iter_stop (step := R99L1 Ar.std (rU f) (x : Int) (y : Int) (FR m l (tF m l)) (FR m' l' (tF m' l'))) 4 (fun i => (i : Int)) (badL l m' l' f x y) () (fun lab hlab _ => by
    have hs : tF m l (6 * lab + x) = stepN l (2 ^ x) (lab : Int) := by
      rw [tF_step _ (by omega), show (6 * lab + x) % 6 = x from by omega, show (6 * lab + x) / 6 = lab from by omega]
    have hst : stepN l (2 ^ x) (lab : Int) < 64 := stepN_lt S.ok _ _
    have hc : tF m' l' (24 + 6 * lab + y) = comesN m' l' (2 ^ y) (lab : Int) := tF_comes hlab hy hy6
    have hc64 : comesN m' l' (2 ^ y) (lab : Int) < 64 := lt64 hm' (comesN_ltB S'.sb (Nat.pow_lt_pow_right (by decide) hy) _)
    have inner := iter_stop (step := R99L0 Ar.std (rU f) (y : Int) (FR m' l' (tF m' l')) (lab : Int) (eInt (cNs (bl (stepN l (2 ^ x) (lab : Int)))))) (bl (stepN l (2 ^ x) (lab : Int))).length (fun i => (i : Int)) (fun i => ((bl (stepN l (2 ^ x) (lab : Int)))[i]?.map fun to => decide (f to &&& comesN m' l' (2 ^ y) (lab : Int) = 0)).getD false) () (fun i hi _ => by
      have ha := List.getElem?_eq_getElem hi
      generalize (bl (stepN l (2 ^ x) (lab : Int)))[i] = a at ha
      have ha6 : a < 6 := (mem_bl.1 (List.mem_of_getElem? ha)).1
      have hlt : Ar.std.zlt (i : Int) (Ar.std.len (eInt (cNs (bl (stepN l (2 ^ x) (lab : Int)))))) = true := by rw [eIc_len]; exact ltN hi
      have hgt : gt Ar.std (cI .i64) (eInt (cNs (bl (stepN l (2 ^ x) (lab : Int))))) (i : Int) = some (a : Int) := gt_enc (cNs_get ha)
      have hb := bl_len (stepN l (2 ^ x) (lab : Int))
      have hix := ix3 lab y 24
      have hstep : R99L0 Ar.std (rU f) (y : Int) (FR m' l' (tF m' l')) (lab : Int) (eInt (cNs (bl (stepN l (2 ^ x) (lab : Int))))) (i : Int) = some (bif decide (f a &&& comesN m' l' (2 ^ y) (lab : Int) = 0) then .inr (.inr ()) else .inl ((i + 1 : Nat) : Int)) := by
        unfold R99L0
        rw [hlt, cond_true, hgt, bsome, ckN, bsome, ckL ha6, bsome, ix1, rU_gc _ ha6, bsome, ckN, bsome, ckL hlab, bsome, ckN, bsome, ckL hy6, bsome, hix, FR_gc _ _ _ (by omega), bsome, hc, andS (hf a) hc64, zeqN, inc (by omega : i < 100) (by decide)]
        cases decide (f a &&& comesN m' l' (2 ^ y) (lab : Int) = 0) <;> rfl
      rw [ha, Option.map_some, Option.getD_some]
      exact ⟨fun hb => by rw [hstep, hb, cond_false], fun hb => ⟨(), by rw [hstep, hb, cond_true]⟩⟩) (fun _ => by
      unfold R99L0
      rw [show Ar.std.zlt ((bl (stepN l (2 ^ x) (lab : Int))).length : Int) (Ar.std.len (eInt (cNs (bl (stepN l (2 ^ x) (lab : Int)))))) = false from by rw [eIc_len]; exact geN _, cond_false])
    have hany : (List.range (bl (stepN l (2 ^ x) (lab : Int))).length).any (fun i => ((bl (stepN l (2 ^ x) (lab : Int)))[i]?.map fun to => decide (f to &&& comesN m' l' (2 ^ y) (lab : Int) = 0)).getD false) = badL l m' l' f x y lab := by
      unfold badL
      rw [Bool.eq_iff_iff]
      simp only [List.any_eq_true, List.mem_range]
      constructor
      · rintro ⟨i, hi, h⟩
        rw [List.getElem?_eq_getElem hi, Option.map_some, Option.getD_some] at h
        exact ⟨_, List.getElem_mem hi, h⟩
      · rintro ⟨a, ha, h⟩
        obtain ⟨i, hi, rfl⟩ := List.getElem_of_mem ha
        exact ⟨i, hi, by rw [List.getElem?_eq_getElem hi, Option.map_some, Option.getD_some]; exact h⟩
    rw [hany] at inner
    have hix2 := ix3 lab x 0
    rw [show 0 + 6 * lab + x = 6 * lab + x from by omega] at hix2
    have e0 : (((0 : Nat) : Int)) = 0 := rfl
    have hL : iter (R99L0 Ar.std (rU f) (y : Int) (FR m' l' (tF m' l')) (lab : Int) (eInt (cNs (bl (stepN l (2 ^ x) (lab : Int)))))) 0 = some (bif badL l m' l' f x y lab then .inr () else .inl ()) := by
      rw [← e0]
      rcases inner with ⟨h1, _, h3⟩ | ⟨h1, z, h3⟩
      · rw [h1]; exact h3
      · rw [h1]; exact h3
    have hstep : R99L1 Ar.std (rU f) (x : Int) (y : Int) (FR m l (tF m l)) (FR m' l' (tF m' l')) (lab : Int) = some (bif badL l m' l' f x y lab then .inr (.inr ()) else .inl ((lab + 1 : Nat) : Int)) := by
      unfold R99L1
      rw [lt4 hlab, cond_true, ckN, bsome, ckL hlab, bsome, ckN, bsome, ckL hx, bsome, hix2, FR_gc _ _ _ (by omega), bsome, hs, R76_eq _ hst, bsome, hL, bsome, inc (by omega : lab < 100) (by decide)]
      cases badL l m' l' f x y lab <;> rfl
    exact ⟨fun hb => by rw [hstep, hb, cond_false], fun hb => ⟨(), by rw [hstep, hb, cond_true]⟩⟩) (fun _ => by
    unfold R99L1
    rw [show Ar.std.zlt ((4 : Nat) : Int) 4 = false from rfl, cond_false])
  have e0 : (((0 : Nat) : Int)) = 0 := rfl
  rw [e0, keep_labels S.ok] at key
  unfold R99 keepN
  rw [rU_len, bsome]
  rcases key with ⟨h1, _, h3⟩ | ⟨h1, z, h3⟩
  · rw [h3, bsome, h1]; rfl
  · rw [h3, bsome, h1]; rfl
end Go.Am

set_option maxRecDepth 100000
set_option linter.unusedVariables false
set_option linter.unusedSimpArgs false
set_option linter.unusedSectionVars false
namespace Go.Am
open Go
section
variable {m m' : Nat} {l l' : List St3}
def allF (m m' : Nat) (x : Nat) : Nat := if x < m then 2 ^ m' - 1 else 0
theorem allF_size : ∀ (m m' : Fin 7), sizeF (allF m.val m'.val) ≤ m.val * m'.val := by decide +kernel
def bestF (m : Nat) (l : List St3) (m' : Nat) (l' : List St3) : Nat → Nat := itr (dws (keepN l m' l') m) (m * m') (allF m m')
theorem clr_ltB {a y n : Nat} (h : a < 2 ^ n) : clr a y < 2 ^ n := Nat.lt_of_le_of_lt Nat.and_le_left h
theorem dwc_inB {K : (Nat → Nat) → Nat → Nat → Bool} {x y : Nat} {f : Nat → Nat} (h : ∀ i, f i < 2 ^ m') (i : Nat) : dwc K x f y i < 2 ^ m' := by
  unfold dwc
  cases K f x y with
  | true => exact h i
  | false =>
    show upd f x (clr (f x) y) i < _
    unfold upd; split
    · exact clr_ltB (h x)
    · exact h i
theorem fold_inv {γ S : Type} {P : S → Prop} {g : S → γ → S} (hg : ∀ f c, P f → P (g f c)) : ∀ (l : List γ) (f : S), P f → P (l.foldl g f)
  | [], f, h => h
  | c :: l, f, h => fold_inv hg l (g f c) (hg f c h)
theorem dwx_inB {K : (Nat → Nat) → Nat → Nat → Bool} {x : Nat} {f : Nat → Nat} (h : ∀ i, f i < 2 ^ m') : ∀ i, dwx K f x i < 2 ^ m' := fold_inv (g := dwc K x) (P := fun f => ∀ i, f i < 2 ^ m') (fun f c h => dwc_inB (f := f) h) _ f h
theorem dws_inB {K : (Nat → Nat) → Nat → Nat → Bool} {f : Nat → Nat} (h : ∀ i, f i < 2 ^ m') : ∀ i, dws K m f i < 2 ^ m' := fold_inv (g := dwx K) (P := fun f => ∀ i, f i < 2 ^ m') (fun f c h => dwx_inB (f := f) h) _ f h
theorem itr_inB {K : (Nat → Nat) → Nat → Nat → Bool} : ∀ (k : Nat) {f : Nat → Nat}, (∀ i, f i < 2 ^ m') → ∀ i, itr (dws K m) k f i < 2 ^ m'
  | 0, f, h => h
  | k + 1, f, h => itr_inB k (dws_inB h)
theorem allF_inB (i : Nat) : allF m m' i < 2 ^ m' := by
  have := Nat.two_pow_pos m'
  unfold allF; split <;> omega
theorem lt2 {m' : Nat} (hm' : m' ≤ 6) {f : Nat → Nat} (h : ∀ i, f i < 2 ^ m') : ∀ i, f i < 64 := fun i => lt64 hm' (h i)
theorem andNotS {a y : Nat} (ha : a < 64) (hy : y < 6) : Ar.std.bits .andNot .u8 (a : Int) ((2 ^ y : Nat) : Int) = ((clr a y : Nat) : Int) := by rw [std_bits]; exact andNot_u8 ⟨a, ha⟩ ⟨y, hy⟩
theorem R90L1_eq (S : Sys m l) (S' : Sys m' l') {x : Nat} (hx : x < 6) {a : Nat} (ha : a < 2 ^ m') (s0 : Bool × (Nat → Nat)) (h0 : ∀ i, s0.2 i < 2 ^ m') :
    iter (R90L1 Ar.std (FR m l (tF m l)) (FR m' l' (tF m' l')) (x : Int) (eInt (cNs (bl a)))) (s0.1, 0, rU s0.2) = some (((bl a).foldl (swc (keepN l m' l') x) s0).1, rU ((bl a).foldl (swc (keepN l m' l') x) s0).2) := by
  have hm' := S'.le
  have hb := bl_len a
  have key := iter_foldI (step := R90L1 Ar.std (FR m l (tF m l)) (FR m' l' (tF m' l')) (x : Int) (eInt (cNs (bl a)))) (bl a) (fun (s : Bool × (Nat → Nat)) i => (s.1, (i : Int), rU s.2)) (swc (keepN l m' l') x) (fun s => (s.1, rU s.2)) (fun s => ∀ i, s.2 i < 2 ^ m') (fun i y s hy hi hI => by
    refine ⟨?_, by rw [swc_snd]; exact dwc_inB hI⟩
    have hym : y < m' := bl_lt ha (List.mem_of_getElem? hy)
    have hy6 : y < 6 := by omega
    have hlt : Ar.std.zlt (i : Int) (Ar.std.len (eInt (cNs (bl a)))) = true := by rw [eIc_len]; exact ltN hi
    have hgt : gt Ar.std (cI .i64) (eInt (cNs (bl a))) (i : Int) = some (y : Int) := gt_enc (cNs_get hy)
    unfold R90L1 swc
    dsimp only
    rw [hlt, cond_true, hgt, bsome, rU_ga, bsome, R99_eq S S' (lt2 hm' hI) hx hym, bsome, inc (by omega : i < 100) (by decide)]
    cases keepN l m' l' s.2 x y with
    | true => rfl
    | false =>
      rw [cond_false, cond_false, ckN, bsome, ckL hx, bsome, ix1, rU_gc _ hx, bsome, nkN, bsome, bsome, bsome, rU_lget _ hx, bsome, bsome, shlS (by omega), andNotS (lt2 hm' hI x) hy6, rU_lset]) (fun s _ => by
    unfold R90L1
    dsimp only
    rw [show Ar.std.zlt ((bl a).length : Int) (Ar.std.len (eInt (cNs (bl a)))) = false from by rw [eIc_len]; exact geN _, cond_false]) s0 h0
  exact key
theorem range_get {n i : Nat} {a : Nat} (h : (List.range n)[i]? = some a) : a = i ∧ i < n := by
  rw [List.getElem?_eq_some_iff] at h
  obtain ⟨h1, h2⟩ := h
  rw [List.length_range] at h1
  rw [List.getElem_range] at h2
  exact ⟨h2.symm, h1⟩
theorem R90L2_eq (S : Sys m l) (S' : Sys m' l') (s0 : Bool × (Nat → Nat)) (h0 : ∀ i, s0.2 i < 2 ^ m') :
    iter (R90L2 Ar.std (FR m l (tF m l)) (FR m' l' (tF m' l')) (m : Int)) (s0.1, 0, rU s0.2) = some (((List.range m).foldl (swx (keepN l m' l')) s0).1, rU ((List.range m).foldl (swx (keepN l m' l')) s0).2) := by
  have hm := S.le
  have hm' := S'.le
  have key := iter_foldI (step := R90L2 Ar.std (FR m l (tF m l)) (FR m' l' (tF m' l')) (m : Int)) (List.range m) (fun (s : Bool × (Nat → Nat)) i => (s.1, (i : Int), rU s.2)) (swx (keepN l m' l')) (fun s => (s.1, rU s.2)) (fun s => ∀ i, s.2 i < 2 ^ m') (fun i x s hx hi hI => by
    refine ⟨?_, by rw [swx_snd]; exact dwx_inB hI⟩
    obtain ⟨rfl, hi⟩ := range_get hx
    unfold R90L2 swx
    dsimp only
    rw [ltN hi, cond_true, ckN, bsome, ckL (by omega : x < 6), bsome, ix1, rU_gc _ (by omega), bsome, R76_eq _ (lt2 hm' hI x), bsome, R90L1_eq S S' (by omega) (hI x) s hI, bsome, inc (by omega : x < 100) (by decide)]) (fun s _ => by
    unfold R90L2
    dsimp only
    rw [List.length_range, geN, cond_false]) s0 h0
  exact key
theorem FR_gc0' (n : Int) (l : List St3) (f : Nat → Nat) : gc Ar.std (cI .i64) (FR n l f) (Ar.std.nat 0) = some n := FR_gc0 n l f
theorem R90L3_eq (S : Sys m l) (S' : Sys m' l') : ∀ (n : Nat) (f : Nat → Nat), (∀ i, f i < 2 ^ m') → sizeF f ≤ n →
    iter (R90L3 Ar.std (FR m l (tF m l)) (FR m' l' (tF m' l'))) (true, rU f) = some (rU (itr (dws (keepN l m' l') m) n f)) := by
  have step : ∀ (f : Nat → Nat), (∀ i, f i < 2 ^ m') → R90L3 Ar.std (FR m l (tF m l)) (FR m' l' (tF m' l')) (true, rU f) = some (.inl ((sws (keepN l m' l') m f).1, rU (sws (keepN l m' l') m f).2)) := fun f hf => by
    unfold R90L3
    dsimp only
    rw [cond_true, FR_gc0', bsome, R90L2_eq S S' (false, f) hf, bsome]; rfl
  have stop : ∀ (f : Nat → Nat), R90L3 Ar.std (FR m l (tF m l)) (FR m' l' (tF m' l')) (false, rU f) = some (.inr (rU f)) := fun f => by
    unfold R90L3
    dsimp only
    rw [cond_false]
  intro n
  induction n with
  | zero =>
    intro f hf hs
    have h := sws_ch (K := keepN l m' l') S.le (lt2 S'.le hf)
    have hst := step f hf
    cases hc : (sws (keepN l m' l') m f).1 with
    | false =>
      rw [hc, (h.1.no hc).2] at hst
      rw [iter_inl hst, iter_inr (stop f)]; rfl
    | true =>
      rcases h.1.yes hc with a | a
      · cases a
      · have : sizeF (sws (keepN l m' l') m f).2 < sizeF f := a
        omega
  | succ n ih =>
    intro f hf hs
    have h := sws_ch (K := keepN l m' l') S.le (lt2 S'.le hf)
    have hst := step f hf
    cases hc : (sws (keepN l m' l') m f).1 with
    | false =>
      rw [itr_fix (fix_of S.le (lt2 S'.le hf) hc)]
      rw [hc, (h.1.no hc).2] at hst
      rw [iter_inl hst, iter_inr (stop f)]
    | true =>
      rcases h.1.yes hc with a | a
      · cases a
      · have a' : sizeF (dws (keepN l m' l') m f) < sizeF f := by rw [← sws_snd]; exact a
        rw [hc, sws_snd] at hst
        rw [iter_inl hst, itr]
        exact ih _ (dws_inB hf) (by omega)
theorem bestF_inB : ∀ i, bestF m l m' l' i < 2 ^ m' := itr_inB _ allF_inB
theorem R90_eq (S : Sys m l) (S' : Sys m' l') : R90 Ar.std (FR m l (tF m l)) (FR m' l' (tF m' l')) = some (rU (bestF m l m' l')) := by
  have hm := S.le
  have hm' := S'.le
  have h2 : 2 ^ m' ≤ 64 := Nat.pow_le_pow_right (n := 2) (by decide) hm'
  have hp := Nat.two_pow_pos m'
  have key := iter_to (step := R90L0 Ar.std (FR m' l' (tF m' l')) (m : Int)) m (fun i => ((i : Int), rU (allF i m'))) (rU (allF m m')) (fun i hi => by
    have hw : Ar.std.wrp .u8 (Ar.std.zsub (Ar.std.shl .u8 1 (m' : Int)) 1) = ((2 ^ m' - 1 : Nat) : Int) := by
      rw [shlS (by omega), std_wrp, std_zsub, u8w _ (by omega) (by omega)]; omega
    have hu : upd (allF i m') i (2 ^ m' - 1) = allF (i + 1) m' := by
      funext j
      unfold upd allF
      by_cases h : j = i
      · rw [if_pos h, if_pos (by omega)]
      · rw [if_neg h]
        by_cases h2 : j < i
        · rw [if_pos h2, if_pos (by omega)]
        · rw [if_neg h2, if_neg (by omega)]
    unfold R90L0
    dsimp only
    rw [ltN hi, cond_true, FR_gc0', bsome, nkN, bsome, ckN, bsome, ckL (by omega : i < 6), bsome, ix1, rU_lget _ (by omega), bsome, hw, rU_lset, hu, inc (by omega : i < 100) (by decide)]) (by
    unfold R90L0
    dsimp only
    rw [geN, cond_false])
  have e0 : rU (allF 0 m') = rU fun _ => 0 := rU_congr fun i _ => by unfold allF; rw [if_neg (by omega)]
  rw [e0] at key
  have hsz : sizeF (allF m m') ≤ m * m' := allF_size ⟨m, by omega⟩ ⟨m', by omega⟩
  have h3 := R90L3_eq S S' (m * m') (allF m m') allF_inB hsz
  unfold R90
  have key' : iter (R90L0 Ar.std (FR m' l' (tF m' l')) (m : Int)) (0, Ar.std.rep (Int.ofNat 6) (.int .u8 0)) = some (rU (allF m m')) := by rw [rU_rep]; exact key
  rw [FR_gc0', bsome, key', bsome, h3, bsome]
  show (ga Ar.std (rU (bestF m l m' l')) _ _).bind _ = _
  rw [rU_ga, bsome, rU_len, bsome, rU_room, bsome, rU_spl, rU_len, bsome, rU_ones, bsome]
end
end Go.Am

set_option maxRecDepth 100000
set_option linter.unusedVariables false
set_option linter.unusedSimpArgs false
set_option linter.unusedSectionVars false
namespace Go.Am
open Go
section
variable {m m' : Nat} {l l' : List St3}
end
theorem bestF_out {m m' : Nat} {l l' : List St3} (hm : m ≤ 6) {x : Nat} (hx : m ≤ x) : bestF m l m' l' x = 0 := by
  have key : ∀ (k : Nat) (f : Nat → Nat), f x = 0 → itr (dws (keepN l m' l') m) k f x = 0 := by
    intro k
    induction k with
    | zero => exact fun f h => h
    | succ k ih =>
      intro f h
      refine ih _ ?_
      unfold dws
      refine fold_inv (g := dwx (keepN l m' l')) (P := fun f => f x = 0) (fun f c h => ?_) _ f h
      unfold dwx
      refine fold_inv (g := dwc (keepN l m' l') c) (P := fun f => f x = 0) (fun f y h => ?_) _ f h
      unfold dwc
      cases keepN l m' l' f c y with
      | true => exact h
      | false =>
        show upd f c (clr (f c) y) x = 0
        unfold upd
        by_cases hx : x = c
        · subst hx
          rw [if_pos rfl, h]; simp [clr]
        · rw [if_neg hx]; exact h
  exact key _ _ (by unfold allF; rw [if_neg (by omega)])
def rfn (n : Int) (l : List St3) (n' : Int) (l' : List St3) : Bool × Int :=
  bif vSys n l && vSys n' l' then ((bestF n.toNat l n'.toNat l' 0).testBit 0, 0) else (false, 50)
theorem R91_eq {a i : Nat} (ha : a < 64) (hi : i < 6) : R91 Ar.std (a : Int) (i : Int) = some (a.testBit i) := by
  unfold R91
  rw [nkN, bsome]
  have h := has_u8 a i (by omega) (by omega)
  simp only [std_zeq, std_bits, std_shr]
  rw [h]
theorem R44_eq (n n' : Int) (l l' : List St3) (hl : l.length < Lg) (hl' : l'.length < Lg) : R44 Ar.std n (eSt l) n' (eSt l') = some (rfn n l n' l') := by
  unfold R44 rfn
  rw [R70_eq n n' l l' hl hl', bsome]
  cases hv : vSys n l with
  | false => rfl
  | true =>
    cases hv' : vSys n' l' with
    | false => rfl
    | true =>
      obtain ⟨m, rfl, S⟩ := Sys.of hv
      obtain ⟨m', rfl, S'⟩ := Sys.of hv'
      have e : R90 Ar.std (FR m l (tF m l)) (FR m' l' (tF m' l')) = some (rU (bestF m l m' l')) := R90_eq S S'
      have h9 : R91 Ar.std ((bestF m l m' l' 0 : Nat) : Int) 0 = some ((bestF m l m' l' 0).testBit 0) := R91_eq (i := 0) (lt2 S'.le bestF_inB 0) (by decide)
      simp only [cond_true, Int.toNat_natCast, Bool.and_self, Sum.elim_inl]
      rw [e, bsome, rU_gc _ (by decide), bsome, h9, bsome]
end Go.Am

set_option maxRecDepth 100000
set_option linter.unusedVariables false
set_option linter.unusedSimpArgs false
set_option linter.unusedSectionVars false
namespace Go.Am
open Go
section
variable {m m' : Nat} {l l' : List St3} (S : Sys m l) (S' : Sys m' l')
include S S'
end
end Go.Am

set_option maxRecDepth 100000
set_option linter.unusedVariables false
set_option linter.unusedSimpArgs false
set_option linter.unusedSectionVars false
namespace Go.Am
open Go
def mem2 (f : Nat → Nat) (x y : Nat) : Prop := (f x).testBit y = true
theorem subF_mem {f g : Nat → Nat} (h : subF f g) {x y : Nat} (hm : mem2 f x y) : mem2 g x y := (h x).test hm
theorem subF_of {f g : Nat → Nat} (h : ∀ x y, mem2 f x y → mem2 g x y) : subF f g := fun x => by
  refine Nat.eq_of_testBit_eq fun z => ?_
  rw [Nat.testBit_or]
  cases hz : (f x).testBit z with
  | false => rfl
  | true => rw [show (g x).testBit z = true from h x z hz]; rfl
theorem subF.refl (f : Nat → Nat) : subF f f := fun x => Wi.refl _
theorem subF.trans {f g h : Nat → Nat} (a : subF f g) (b : subF g h) : subF f h := fun x => (a x).trans (b x)
section
variable (m' : Nat) (l' : List St3) (r : Nat → Nat)
def nx (y : Nat) (z : St3) : Nat := Lib.trailingZeros8 (r z.2.2.toNat &&& comesN m' l' (2 ^ y) z.2.1)
def Clo (l : List St3) (h : Nat → Nat) : Prop := ∀ (x y : Nat) (z : St3), z ∈ l → z.1 = (x : Int) → mem2 h x y → mem2 h z.2.2.toNat (nx m' l' r y z)
structure Least (l : List St3) (g : Nat → Nat) : Prop where
  clo : Clo m' l' r l g
  fst : mem2 g 0 0
  min : ∀ h, Clo m' l' r l h → mem2 h 0 0 → subF g h
end
section
variable {m m' : Nat} {l l' : List St3}
theorem keep_ne {f : Nat → Nat} {x y : Nat} (h : keepN l m' l' f x y = true) {z : St3} (hz : z ∈ l) (hx : z.1 = (x : Int)) : f z.2.2.toNat &&& comesN m' l' (2 ^ y) z.2.1 ≠ 0 := by
  unfold keepN at h
  rw [Bool.not_eq_true', Bool.eq_false_iff] at h
  intro h0
  refine h (List.any_eq_true.2 ⟨z, hz, ?_⟩)
  unfold badK
  rw [decide_eq_true hx, Nat.and_comm, decide_eq_true h0]; rfl
theorem keep_iff {f : Nat → Nat} {x y : Nat} : keepN l m' l' f x y = true ↔ ∀ z ∈ l, z.1 = (x : Int) → f z.2.2.toNat &&& comesN m' l' (2 ^ y) z.2.1 ≠ 0 := by
  refine ⟨fun h z hz hx => keep_ne h hz hx, fun h => ?_⟩
  unfold keepN
  rw [Bool.not_eq_true', Bool.eq_false_iff]
  intro ha
  obtain ⟨z, hz, hb⟩ := List.any_eq_true.1 ha
  unfold badK at hb
  simp only [Bool.and_eq_true, decide_eq_true_eq] at hb
  refine h z hz hb.1 ?_
  rw [Nat.and_comm]; exact hb.2
theorem keep_mono {f g : Nat → Nat} {x y : Nat} (h : subF f g) (hk : keepN l m' l' f x y = true) : keepN l m' l' g x y = true := by
  rw [keep_iff] at hk ⊢
  intro z hz hx h0
  refine hk z hz hx ?_
  refine Nat.eq_of_testBit_eq fun b => ?_
  have hb : (g z.2.2.toNat &&& comesN (m' : Int) l' (2 ^ y) z.2.1).testBit b = false := by rw [h0]; exact Nat.zero_testBit b
  rw [Nat.testBit_and] at hb
  rw [Nat.testBit_and, Nat.zero_testBit]
  cases hf : (f z.2.2.toNat).testBit b with
  | false => rfl
  | true => rw [(h _).test hf] at hb; exact hb
theorem bestF_pf (S : Sys m l) (S' : Sys m' l') : isPf (keepN l m' l') m (bestF m l m' l') := by
  have hm := S.le
  have hm' := S'.le
  have hsz : sizeF (allF m m') ≤ m * m' := allF_size ⟨m, by omega⟩ ⟨m', by omega⟩
  have hfix := dws_fix (K := keepN l m' l') hm (m * m') (f := allF m m') (lt2 hm' allF_inB) hsz
  exact (sws_ch hm (lt2 hm' bestF_inB)).2 hfix
theorem bestF_max (S : Sys m l) (S' : Sys m' l') {p : Nat → Nat} (hp : isPf (keepN l m' l') m p) (hall : subF p (allF m m')) : subF p (bestF m l m' l') :=
  itr_sub (K := keepN l m' l') (fun f g x y h hk => keep_mono h hk) hp _ (lt2 S'.le allF_inB) hall
theorem mem_lt6 {h : Nat → Nat} {x y : Nat} (hh : ∀ i, h i < 64) (hm : mem2 h x y) : y < 6 := by
  rcases Nat.lt_or_ge y 6 with h1 | h1
  · exact h1
  · unfold mem2 at hm
    rw [high_false (hh x) h1] at hm; cases hm
end
end Go.Am

set_option maxRecDepth 100000
set_option linter.unusedVariables false
set_option linter.unusedSimpArgs false
set_option linter.unusedSectionVars false
namespace Go.Am
open Go
section
variable {m m' : Nat} {l l' : List St3}
end
end Go.Am

set_option maxRecDepth 100000
set_option linter.unusedVariables false
set_option linter.unusedSimpArgs false
set_option linter.unusedSectionVars false
namespace Go.Am
open Go
def Suc (l : List St3) (m' : Nat) (l' : List St3) (r s : Nat → Nat) (a b : Nat) : Prop := ∀ z : St3, z ∈ l → z.1 = (a : Int) → mem2 s z.2.2.toNat (nx m' l' r b z)
theorem Suc.mono {l : List St3} {m' : Nat} {l' : List St3} {r s t : Nat → Nat} {a b : Nat} (h : Suc l m' l' r s a b) (hs : subF s t) : Suc l m' l' r t a b := fun z hz hx => subF_mem hs (h z hz hx)
structure Ex (l : List St3) (m' : Nat) (l' : List St3) (r o s : Nat → Nat) : Prop where
  sub : subF o s
  clo : ∀ a b, mem2 s a b → mem2 o a b ∨ Suc l m' l' r s a b
  min : ∀ h, Clo m' l' r l h → subF o h → subF s h
  lt : ∀ i, s i < 2 ^ m'
structure Dfs (l : List St3) (m' : Nat) (l' : List St3) (r : Nat → Nat) (x y : Nat) (o s : Nat → Nat) : Prop where
  sub : subF o s
  has : mem2 s x y
  clo : ∀ a b, mem2 s a b → mem2 o a b ∨ Suc l m' l' r s a b
  min : ∀ h, Clo m' l' r l h → subF o h → mem2 h x y → subF s h
  lt : ∀ i, s i < 2 ^ m'
section
variable {m m' : Nat} {l l' : List St3}
end
end Go.Am

set_option maxRecDepth 100000
set_option linter.unusedVariables false
set_option linter.unusedSimpArgs false
set_option linter.unusedSectionVars false
namespace Go.Am
open Go
abbrev cSy : Cod (Int × List D) := cG (lc (cI .i64) (l1 (cL 3)))
def eSy (s : Int × List St3) : D := .agg [.int .i64 s.1, .list 3 (eSt s.2)]
def okSy (s : Int × List St3) : Bool := !decide ((100 : Int) < s.2.length) && vSys s.1 s.2
theorem R42_eq (ss : List (Int × List St3)) (hs : ss.length < Lg) (hl : ∀ s ∈ ss, s.2.length < Lg) : R42 Ar.std (ss.map eSy) = some (ss.all okSy) := by
  have key := iter_any (step := R42L0 Ar.std (ss.map eSy)) ss (fun s => !okSy s) (.inr ()) (.inl ()) (fun i s hi hlt => by
    have hget : gt Ar.std cSy (ss.map eSy) (i : Int) = some (s.1, eSt s.2) := by
      rw [gt_at hi]; rfl
    have hz : Ar.std.zlt (i : Int) (Ar.std.len (ss.map eSy)) = true := by rw [std_len, List.length_map]; exact ltN hlt
    unfold R42L0
    rw [hz, cond_true, hget, bsome]
    dsimp only
    rw [R16_eq, bsome, R34_eq s.1 s.2 (hl s (List.mem_of_getElem? hi)), bsome, inc hlt hs]
    unfold okSy
    cases decide ((100 : Int) < s.2.length) <;> cases vSys s.1 s.2 <;> rfl) (by
    unfold R42L0
    rw [std_len, List.length_map, geN, cond_false])
  unfold R42
  rw [key, bsome, any_notB]
  cases ss.all okSy <;> rfl
theorem stepN_has {l : List St3} (hl : SOk l) {s : Nat} {z : St3} (hz : z ∈ l) (hs : s.testBit z.1.toNat = true) : (stepN l s z.2.1).testBit z.2.2.toNat = true := by
  rw [stepN_test, List.any_eq_true]
  refine ⟨z, hz, ?_⟩
  unfold goes
  rw [decide_eq_true rfl, hs, decide_eq_true rfl]; rfl
theorem quiet_sub (m : Nat) (l : List St3) (s : Nat) : Wi s (quietN m l s) := by rw [quietN_nat]; exact hids_sub l m s
theorem comes_has {m : Nat} {l : List St3} (S : Sys m l) {s : Nat} {z : St3} (hz : z ∈ l) (hs : s.testBit z.1.toNat = true) : (comesN m l s z.2.1).testBit z.2.2.toNat = true := by
  unfold comesN
  by_cases h0 : z.2.1 = 0
  · rw [decide_eq_true h0, cond_true, quietN_nat]
    obtain ⟨k, hk⟩ : ∃ k, m = k + 1 := ⟨m - 1, by have := S.pos; omega⟩
    rw [hk]
    refine (hids_sub l k (hid l s)).test ?_
    unfold hid
    rw [Nat.testBit_or, ← h0, stepN_has S.ok hz hs, Bool.or_true]
  · rw [decide_eq_false h0, cond_false]
    exact (quiet_sub m l _).test (stepN_has S.ok hz ((quiet_sub m l s).test hs))
theorem and_ne {a b z : Nat} (ha : a.testBit z = true) (hb : b.testBit z = true) : a &&& b ≠ 0 := by
  intro h
  have : (a &&& b).testBit z = true := by rw [Nat.testBit_and, ha, hb]; rfl
  rw [h] at this; simp at this
end Go.Am

set_option maxRecDepth 100000
set_option linter.unusedVariables false
set_option linter.unusedSimpArgs false
set_option linter.unusedSectionVars false
namespace Go.Am
open Go
theorem and2 {x y : Bool} (h : (x && y) = true) : x = true ∧ y = true := by cases x <;> cases y <;> first | exact ⟨rfl, rfl⟩ | cases h
theorem okSy_v {s : Int × List St3} (h : okSy s = true) : vSys s.1 s.2 = true := (and2 h).2
end Go.Am

set_option maxRecDepth 100000
set_option linter.unusedVariables false
set_option linter.unusedSimpArgs false
set_option linter.unusedSectionVars false
namespace Go.Am
open Go
theorem comesN_mono {n : Int} {l : List St3} {a b : Nat} (lab : Int) (h : Wi a b) : Wi (comesN n l a lab) (comesN n l b lab) := by
  unfold Wi at h ⊢
  rw [← comesN_or, h]
theorem quiet_quiet {m : Nat} {l : List St3} (S : Sys m l) {s : Nat} (hs : s < 2 ^ m) : quietN m l (quietN m l s) = quietN m l s := by
  rw [quietN_nat, quietN_nat]
  exact hids_of_fix (hids_fix S.sb hs) m
theorem bit_in {s y : Nat} (h : s.testBit y = true) : Wi (2 ^ y) s := by
  refine Nat.eq_of_testBit_eq fun z => ?_
  rw [Nat.testBit_or, Nat.testBit_two_pow]
  by_cases hz : y = z
  · subst hz; rw [h]; simp
  · rw [decide_eq_false hz]; rfl
def Cov (g : Nat → Nat) (s t : Nat) : Prop := ∀ y, s.testBit y = true → ∃ w, t.testBit w = true ∧ mem2 g y w
theorem Cov.mono {g : Nat → Nat} {s t u : Nat} (h : Cov g s t) (hu : Wi t u) : Cov g s u := fun y hy => by
  obtain ⟨w, h1, h2⟩ := h y hy
  exact ⟨w, hu.test h1, h2⟩
theorem Cov.or {g : Nat → Nat} {a b t : Nat} (h : Cov g a t) (h' : Cov g b t) : Cov g (a ||| b) t := fun y hy => by
  rw [Nat.testBit_or, Bool.or_eq_true] at hy
  rcases hy with h1 | h1
  · exact h y h1
  · exact h' y h1
section
variable {m m' : Nat} {l l' : List St3} (S : Sys m l) (S' : Sys m' l') {g : Nat → Nat} (hg : ∀ x y, mem2 g x y → keepN l m' l' g x y = true)
include S S' hg
theorem cov_step {s t : Nat} (h : Cov g s t) (lab : Int) : Cov g (stepN l s lab) (comesN m' l' t lab) := fun y hy => by
  rw [stepN_test, List.any_eq_true] at hy
  obtain ⟨z, hz, h1⟩ := hy
  simp only [goes, Bool.and_eq_true, decide_eq_true_eq] at h1
  obtain ⟨⟨h1, h2⟩, h3⟩ := h1
  have hok := S.ok.2 z hz
  obtain ⟨w, hw1, hw2⟩ := h _ h2
  have hk := keep_ne (hg z.1.toNat w hw2) hz (by omega : z.1 = ((z.1.toNat : Nat) : Int))
  obtain ⟨b, hb⟩ := Nat.exists_testBit_of_ne_zero hk
  rw [Nat.testBit_and, Bool.and_eq_true, h1] at hb
  refine ⟨b, (comesN_mono lab (bit_in hw1)).test hb.2, ?_⟩
  rw [← h3]; exact hb.1
theorem cov_hids {t : Nat} (ht : quietN m' l' t = t) : ∀ (k s : Nat), Cov g s t → Cov g (hids l k s) t
  | 0, s, h => h
  | k + 1, s, h => by
    refine cov_hids ht k (hid l s) ?_
    refine h.or ?_
    have := cov_step S S' hg h 0
    unfold comesN at this
    rw [decide_eq_true rfl, cond_true, ht] at this
    exact this
theorem cov_quiet {s t : Nat} (ht : t < 2 ^ m') (h : Cov g s t) : Cov g (quietN m l s) (quietN m' l' t) := by
  rw [quietN_nat m l]
  exact cov_hids S S' hg (quiet_quiet S' ht) m s (h.mono (quiet_sub m' l' t))
theorem cov_comes {s t : Nat} (ht : t < 2 ^ m') (h : Cov g s t) (lab : Int) : Cov g (comesN m l s lab) (comesN m' l' t lab) := by
  have h1 := cov_quiet S S' hg ht h
  unfold comesN
  by_cases h0 : lab = 0
  · rw [decide_eq_true h0, cond_true, cond_true]; exact h1
  · rw [decide_eq_false h0, cond_false, cond_false]
    have hq : quietN m' l' t < 2 ^ m' := quietN_ltB S'.sb ht
    have h2 := cov_step S S' hg h1 lab
    unfold comesN at h2
    rw [decide_eq_false h0, cond_false, quiet_quiet S' ht] at h2
    have h3 := cov_quiet S S' hg (quietN_ltB S'.sb (stepN_ltB S'.sb _ _)) h2
    rw [quiet_quiet S' (stepN_ltB S'.sb _ _)] at h3
    exact h3
theorem cov_behind (h0 : mem2 g 0 0) : ∀ (tr : List Int), Cov g (behindN m l tr) (behindN m' l' tr) := fun tr => by
  induction tr using snoc_indR with
  | h0 =>
    have : Cov g 1 1 := fun y hy => by
      have : y = 0 := by
        have h1 := Nat.testBit_two_pow (n := 0) (m := y)
        rw [show (2 : Nat) ^ 0 = 1 from rfl, hy] at h1
        exact (of_decide_eq_true h1.symm).symm
      subst this
      exact ⟨0, rfl, h0⟩
    exact cov_quiet S S' hg (Nat.one_lt_two_pow (by have := S'.pos; omega)) this
  | h1 tr lab ih =>
    rw [behindN_snoc, behindN_snoc]
    exact cov_comes S S' hg (behindN_ltB S' tr) ih lab
theorem cov_trace (h0 : mem2 g 0 0) (tr : List Int) (h : behindN m l tr ≠ 0) : behindN m' l' tr ≠ 0 := by
  obtain ⟨y, hy⟩ := Nat.exists_testBit_of_ne_zero h
  obtain ⟨w, hw, _⟩ := cov_behind S S' hg h0 tr y hy
  intro h2
  rw [h2] at hw; simp at hw
end
theorem best_all {m m' : Nat} {l l' : List St3} (S : Sys m l) (S' : Sys m' l') : ∀ x y, mem2 (bestF m l m' l') x y → keepN l m' l' (bestF m l m' l') x y = true := fun x y h => by
  have hx : x < m := by
    rcases Nat.lt_or_ge x m with h1 | h1
    · exact h1
    · unfold mem2 at h
      rw [bestF_out (l := l) (m' := m') (l' := l') S.le h1] at h; simp at h
  exact bestF_pf S S' x hx y (mem_bl.2 ⟨mem_lt6 (lt2 S'.le bestF_inB) h, h⟩)
theorem refines_traces {m m' : Nat} {l l' : List St3} (S : Sys m l) (S' : Sys m' l') (h : mem2 (bestF m l m' l') 0 0) (tr : List Int) : behindN m l tr ≠ 0 → behindN m' l' tr ≠ 0 := cov_trace S S' (best_all S S') h tr
end Go.Am

set_option maxRecDepth 100000
set_option linter.unusedVariables false
set_option linter.unusedSimpArgs false
set_option linter.unusedSectionVars false
namespace Go.Am
open Go
theorem rfn_of {n n' : Int} {l l' : List St3} {m m' : Nat} (hn : n = m) (hn' : n' = m') (hv : vSys n l = true) (hv' : vSys n' l' = true) : rfn n l n' l' = ((bestF m l m' l' 0).testBit 0, 0) := by
  subst hn; subst hn'
  unfold rfn
  rw [hv, hv', Bool.and_self, cond_true, Int.toNat_natCast, Int.toNat_natCast]
theorem sub_all {m m' : Nat} {f : Nat → Nat} (h : ∀ i, m ≤ i → f i = 0) (hB : ∀ i, f i < 2 ^ m') : subF f (allF m m') := subF_of fun x y hxy => by
  have hx : x < m := by
    rcases Nat.lt_or_ge x m with h1 | h1
    · exact h1
    · unfold mem2 at hxy
      rw [h x h1] at hxy; simp at hxy
  have hy : y < m' := by
    rcases Nat.lt_or_ge y m' with h1 | h1
    · exact h1
    · unfold mem2 at hxy
      rw [Nat.testBit_lt_two_pow (Nat.lt_of_lt_of_le (hB x) (Nat.pow_le_pow_right (by decide) h1))] at hxy; cases hxy
  unfold mem2 allF
  rw [if_pos hx, Nat.testBit_two_pow_sub_one]; exact decide_eq_true hy
theorem ref_of {m m' : Nat} {l l' : List St3} (S : Sys m l) (S' : Sys m' l') {f : Nat → Nat} (h : ∀ i, m ≤ i → f i = 0) (hB : ∀ i, f i < 2 ^ m') (hp : ∀ x y, mem2 f x y → keepN l m' l' f x y = true) (h0 : mem2 f 0 0) : mem2 (bestF m l m' l') 0 0 :=
  subF_mem (bestF_max S S' (fun x _ y hy => hp x y (mem_bl.1 hy).2) (sub_all h hB)) h0
end Go.Am

set_option maxRecDepth 100000
set_option linter.unusedVariables false
set_option linter.unusedSimpArgs false
set_option linter.unusedSectionVars false
namespace Go.Am
open Go
theorem num_len : ∀ {w : List Int}, Lab w → num w < 4 ^ w.length ∧ 4 ^ w.length ≤ 4 * (3 * num w + 1) := by
  intro w
  induction w using snoc_indR with
  | h0 => intro _; exact ⟨by decide, by decide⟩
  | h1 w a ih =>
    intro h
    obtain ⟨h1, h2⟩ := Lab.snoc.1 h
    obtain ⟨a1, a2⟩ := ih h1
    rw [num_snoc, List.length_append, List.length_singleton, Nat.pow_succ]
    generalize 4 ^ w.length = p at *
    omega
theorem num_lower : ∀ {w : List Int}, Lab w → 4 ^ w.length ≤ 3 * num w + 1 := by
  intro w
  induction w using snoc_indR with
  | h0 => intro _; decide
  | h1 w a ih =>
    intro h
    obtain ⟨h1, h2⟩ := Lab.snoc.1 h
    have := ih h1
    rw [num_snoc, List.length_append, List.length_singleton, Nat.pow_succ]
    generalize 4 ^ w.length = p at *
    omega
theorem len_of_num {u w : List Int} (hu : Lab u) (hw : Lab w) (h : num u ≤ num w) : u.length ≤ w.length := by
  rcases Nat.lt_or_ge w.length u.length with hlt | hge
  · have h1 := num_lower hu
    have h2 := (num_len hw).1
    
    have h3 : 3 * num w + 3 ≤ 3 * 4 ^ w.length := by omega
    have h4 : 4 ^ (w.length + 1) ≤ 4 ^ u.length := Nat.pow_le_pow_right (by decide) hlt
    rw [Nat.pow_succ] at h4
    generalize 4 ^ w.length = p at *
    generalize 4 ^ u.length = q at *
    omega
  · exact hge
theorem pigeon : ∀ (n : Nat) (f : Nat → Nat), (∀ i, i ≤ n → f i < n) → ∃ i j, i < j ∧ j ≤ n ∧ f i = f j
  | 0, f, h => by have := h 0 (Nat.le_refl _); omega
  | n + 1, f, h => by
    
    by_cases hc : ∃ i, i ≤ n ∧ f i = f (n + 1)
    · obtain ⟨i, hi, e⟩ := hc
      exact ⟨i, n + 1, by omega, Nat.le_refl _, e⟩
    · have hl := h (n + 1) (Nat.le_refl _)
      obtain ⟨i, j, h1, h2, h3⟩ := pigeon n (fun i => if f i = n then f (n + 1) else f i) (fun i hi => by
        have hi' := h i (by omega)
        have hne : f i ≠ f (n + 1) := fun e => hc ⟨i, hi, e⟩
        show (if f i = n then f (n + 1) else f i) < n
        split <;> omega)
      refine ⟨i, j, h1, by omega, ?_⟩
      have hi : f i ≠ f (n + 1) := fun e => hc ⟨i, by omega, e⟩
      have hj : f j ≠ f (n + 1) := fun e => hc ⟨j, by omega, e⟩
      split at h3 <;> split at h3 <;> omega
section
variable {m m' : Nat} {l l' : List St3} (S : Sys m l) (S' : Sys m' l')
theorem foldl_or2 {F : Nat → Int → Nat} (h : ∀ a b lab, F (a ||| b) lab = F a lab ||| F b lab) : ∀ (w : List Int) (a b : Nat), w.foldl F (a ||| b) = w.foldl F a ||| w.foldl F b
  | [], a, b => rfl
  | x :: w, a, b => by rw [List.foldl_cons, List.foldl_cons, List.foldl_cons, h, foldl_or2 h w]
theorem foldl_zero {F : Nat → Int → Nat} (h : ∀ lab, F 0 lab = 0) : ∀ (w : List Int), w.foldl F 0 = 0
  | [] => rfl
  | x :: w => by rw [List.foldl_cons, h, foldl_zero h w]
theorem orAll_ne {g : Nat → Nat} {l : List Nat} (h : orAll g l ≠ 0) : ∃ i ∈ l, g i ≠ 0 := by
  obtain ⟨z, hz⟩ := Nat.exists_testBit_of_ne_zero h
  rw [orAll_test, List.any_eq_true] at hz
  obtain ⟨i, hi, hb⟩ := hz
  refine ⟨i, hi, fun e => ?_⟩
  rw [e] at hb; simp at hb
theorem one_state (n : Int) (l : List St3) {s : Nat} (hs : s < 64) {w : List Int} (h : w.foldl (comesN n l) s ≠ 0) : ∃ x, x ∈ bl s ∧ w.foldl (comesN n l) (2 ^ x) ≠ 0 := by
  have e := orAll_set (g := fun s => w.foldl (comesN n l) s) (foldl_zero (fun lab => comesN_zero n l lab) w) (foldl_or2 (fun a b lab => comesN_or n l a b lab) w) s hs
  rw [← e] at h
  obtain ⟨x, hx, h⟩ := orAll_ne h
  exact ⟨x, hx, h⟩
theorem behind_app (n : Int) (l : List St3) (u v : List Int) : behindN n l (u ++ v) = v.foldl (comesN n l) (behindN n l u) := by simp [behindN, List.foldl_append]
theorem foldl_mono (n : Int) (l : List St3) (w : List Int) {a b : Nat} (h : Wi a b) : Wi (w.foldl (comesN n l) a) (w.foldl (comesN n l) b) := by
  unfold Wi at h ⊢
  rw [← foldl_or2 (fun a b lab => comesN_or n l a b lab), h]
include S S' in
theorem first_short {v : List Int} (h : First (comesN m l) (comesN m' l') (q0 m l m' l') v) : v.length ≤ 384 := by
  rcases Nat.lt_or_ge 384 v.length with hlt | hge
  · have hsep : behindN m l v ≠ 0 ∧ behindN m' l' v = 0 := ⟨h.1.2.1, h.1.2.2⟩
    have hx : ∀ i, ∃ x, x ∈ bl (behindN m l (v.take i)) ∧ (v.drop i).foldl (comesN m l) (2 ^ x) ≠ 0 := fun i => by
      refine one_state m l (lt64 S.le (behindN_ltB S _)) ?_
      rw [← behind_app, List.take_append_drop]; exact hsep.1
    have hf : ∀ i, (Classical.choose (hx i)) * 64 + behindN m' l' (v.take i) < 384 := fun i => by
      have h1 := (mem_bl.1 (Classical.choose_spec (hx i)).1).1
      have h2 := lt64 S'.le (behindN_ltB S' (v.take i))
      omega
    obtain ⟨i, j, hij, hj, e⟩ := pigeon 384 (fun i => (Classical.choose (hx i)) * 64 + behindN m' l' (v.take i)) (fun i _ => hf i)
    have h2i := lt64 S'.le (behindN_ltB S' (v.take i))
    have h2j := lt64 S'.le (behindN_ltB S' (v.take j))
    have ex : Classical.choose (hx i) = Classical.choose (hx j) := by omega
    have ey : behindN m' l' (v.take i) = behindN m' l' (v.take j) := by omega
    have hi := Classical.choose_spec (hx i)
    have hjs := Classical.choose_spec (hx j)
    rw [ex] at hi
    have hlab : Lab (v.take i ++ v.drop j) := fun a ha => by
      rcases List.mem_append.1 ha with h1 | h1
      · exact h.1.1 a (List.mem_of_mem_take h1)
      · exact h.1.1 a (List.mem_of_mem_drop h1)
    have hs2 : Sep (comesN m l) (comesN m' l') (q0 m l m' l') (v.take i ++ v.drop j) := by
      refine ⟨hlab, ?_, ?_⟩
      · show behindN m l (v.take i ++ v.drop j) ≠ 0
        rw [behind_app]
        obtain ⟨z, hz⟩ := Nat.exists_testBit_of_ne_zero hjs.2
        intro h0
        have := (foldl_mono m l (v.drop j) (bit_in (mem_bl.1 hi.1).2)).test hz
        rw [h0] at this; simp at this
      · show behindN m' l' (v.take i ++ v.drop j) = 0
        rw [behind_app, ey, ← behind_app, List.take_append_drop]; exact hsep.2
    have h3 := len_of_num h.1.1 hlab (h.2 _ hs2)
    rw [List.length_append, List.length_take, List.length_drop] at h3
    omega
  · exact hge
end
theorem plainD_iff {l : List St3} (h : plainD l = true) : (∀ z ∈ l, z.2.1 ≠ 0) ∧ ∀ y ∈ l, ∀ z ∈ l, y.1 = z.1 → y.2.1 = z.2.1 → y = z := by
  have hb : ∀ i, i < l.length → badP l i = false := fun i hi => by
    unfold plainD at h
    rw [Bool.not_eq_true', Bool.eq_false_iff] at h
    rw [Bool.eq_false_iff]
    exact fun hb => h (List.any_eq_true.2 ⟨i, List.mem_range.2 hi, hb⟩)
  have key : ∀ i j, (hij : i < j) → (hj : j < l.length) → ¬ (l[j].1 = (l[i]'(by omega)).1 ∧ l[j].2.1 = (l[i]'(by omega)).2.1) := fun i j hij hj hh => by
    have := hb j hj
    rw [badP_get (List.getElem?_eq_getElem hj), Bool.or_eq_false_iff] at this
    have h2 := this.2
    rw [Bool.eq_false_iff] at h2
    refine h2 (List.any_eq_true.2 ⟨l[i]'(by omega), List.mem_take_iff_getElem.2 ⟨i, by omega, rfl⟩, ?_⟩)
    rw [decide_eq_true hh.1, decide_eq_true hh.2]; rfl
  constructor
  · intro z hz
    obtain ⟨i, hi, rfl⟩ := List.getElem_of_mem hz
    have := hb i hi
    rw [badP_get (List.getElem?_eq_getElem hi), Bool.or_eq_false_iff] at this
    exact of_decide_eq_false this.1
  · intro y hy z hz h1 h2
    obtain ⟨i, hi, rfl⟩ := List.getElem_of_mem hy
    obtain ⟨j, hj, rfl⟩ := List.getElem_of_mem hz
    rcases Nat.lt_trichotomy i j with h3 | h3 | h3
    · exact absurd ⟨h1.symm, h2.symm⟩ (key i j h3 hj)
    · subst h3; rfl
    · exact absurd ⟨h1, h2⟩ (key j i h3 hi)
def Single (s : Nat) : Prop := ∀ j k, s.testBit j = true → s.testBit k = true → j = k
section
variable {m : Nat} {l : List St3} (S : Sys m l) (hp : plainD l = true)
include hp
theorem plain_hid (s : Nat) : hid l s = s := by
  unfold hid
  have : stepN l s 0 = 0 := by
    refine Nat.eq_of_testBit_eq fun j => ?_
    rw [stepN_test, Nat.zero_testBit, Bool.eq_false_iff]
    intro h
    obtain ⟨z, hz, h⟩ := List.any_eq_true.1 h
    simp only [goes, Bool.and_eq_true, decide_eq_true_eq] at h
    exact (plainD_iff hp).1 z hz h.1.1
  rw [this, Nat.or_zero]
theorem plain_quiet (s : Nat) : quietN m l s = s := by rw [quietN_nat]; exact hids_of_fix (plain_hid hp s) m
include S in
theorem plain_step {s : Nat} (hs : Single s) (lab : Int) : Single (stepN l s lab) := fun j k hj hk => by
  rw [stepN_test, List.any_eq_true] at hj hk
  obtain ⟨y, hy, h1⟩ := hj
  obtain ⟨z, hz, h2⟩ := hk
  simp only [goes, Bool.and_eq_true, decide_eq_true_eq] at h1 h2
  have h3 := hs _ _ h1.1.2 h2.1.2
  have o1 := S.ok.2 y hy
  have o2 := S.ok.2 z hz
  have : y = z := (plainD_iff hp).2 y hy z hz (by omega) (by rw [h1.1.1, h2.1.1])
  rw [← h1.2, ← h2.2, this]
include S in
theorem plain_comes {s : Nat} (hs : Single s) (lab : Int) : Single (comesN m l s lab) := by
  unfold comesN
  by_cases h0 : lab = 0
  · rw [decide_eq_true h0, cond_true, plain_quiet hp]; exact hs
  · rw [decide_eq_false h0, cond_false, plain_quiet hp, plain_quiet hp]; exact plain_step S hp hs lab
include S in
theorem plain_behind (w : List Int) : Single (behindN m l w) := by
  induction w using snoc_indR with
  | h0 =>
    show Single (quietN m l 1)
    rw [plain_quiet hp]
    intro j k hj hk
    have a : ∀ j, (1 : Nat).testBit j = true → j = 0 := fun j hj => by
      have h1 := Nat.testBit_two_pow (n := 0) (m := j)
      rw [show (2 : Nat) ^ 0 = 1 from rfl, hj] at h1
      exact (of_decide_eq_true h1.symm).symm
    rw [a j hj, a k hk]
  | h1 w a ih => rw [behindN_snoc]; exact plain_comes S hp ih a
end
open Classical in
noncomputable def toSet (n : Nat) (P : Nat → Prop) : Nat := orAll (fun y => if P y then 2 ^ y else 0) (List.range n)
theorem toSet_test (n : Nat) (P : Nat → Prop) (y : Nat) : (toSet n P).testBit y = true ↔ y < n ∧ P y := by
  unfold toSet
  rw [orAll_test, List.any_eq_true]
  constructor
  · rintro ⟨z, hz, h⟩
    split at h
    · rename_i hP
      rw [Nat.testBit_two_pow] at h
      have := of_decide_eq_true h
      subst this
      exact ⟨List.mem_range.1 hz, hP⟩
    · simp at h
  · rintro ⟨h1, h2⟩
    refine ⟨y, List.mem_range.2 h1, ?_⟩
    rw [if_pos h2, Nat.testBit_two_pow]; exact decide_eq_true rfl
theorem toSet_lt (n : Nat) (P : Nat → Prop) : toSet n P < 2 ^ n := by
  unfold toSet
  refine orAll_lt fun y hy => ?_
  split
  · exact Nat.pow_lt_pow_right (by decide) (List.mem_range.1 hy)
  · exact Nat.two_pow_pos n
theorem plain_refines {m m' : Nat} {l l' : List St3} (S : Sys m l) (S' : Sys m' l') (hp : plainD l' = true) (h : ∀ w, ¬ Sep (comesN m l) (comesN m' l') (q0 m l m' l') w) : mem2 (bestF m l m' l') 0 0 := by
  have hm := S.le
  have hm' := S'.le
  let p : Nat → Nat := fun x => toSet m' fun y => ∃ w, Lab w ∧ (behindN m l w).testBit x = true ∧ (behindN m' l' w).testBit y = true
  have hmem : ∀ x y, mem2 p x y ↔ y < m' ∧ ∃ w, Lab w ∧ (behindN m l w).testBit x = true ∧ (behindN m' l' w).testBit y = true := fun x y => toSet_test m' _ y
  refine ref_of S S' (f := p) (fun i hi => ?_) (fun i => toSet_lt m' _) (fun x y hxy => ?_) ((hmem 0 0).2 ⟨by have := S'.pos; omega, [], (fun a ha => by cases ha), (quiet_sub m l 1).test (j := 0) (by decide), (quiet_sub m' l' 1).test (j := 0) (by decide)⟩)
  · refine Nat.eq_of_testBit_eq fun y => ?_
    rw [Nat.zero_testBit, Bool.eq_false_iff]
    intro hy
    obtain ⟨_, w, _, hx, _⟩ := (hmem i y).1 hy
    rw [Nat.testBit_lt_two_pow (Nat.lt_of_lt_of_le (behindN_ltB S w) (Nat.pow_le_pow_right (by decide) hi))] at hx; cases hx
  · obtain ⟨hy, w, hw, hx1, hy1⟩ := (hmem x y).1 hxy
    rw [keep_iff]
    intro z hz hz1
    have hok := S.ok.2 z hz
    have hzx : (behindN m l w).testBit z.1.toNat = true := by rw [hz1, Int.toNat_natCast]; exact hx1
    have hto := comes_has S hz hzx
    by_cases h0 : z.2.1 = 0
    · 
      rw [h0] at hto ⊢
      have hq : comesN m l (behindN m l w) 0 = behindN m l w := by
        have e0 : comesN (m : Int) l (behindN m l w) 0 = quietN m l (behindN m l w) := rfl
        rw [e0]
        rcases List.eq_nil_or_concat w with rfl | ⟨u, a, rfl⟩
        · exact quiet_quiet S (Nat.one_lt_two_pow (by have := S.pos; omega))
        · rw [List.concat_eq_append, behindN_snoc]
          unfold comesN
          cases decide (a = 0) with
          | true => exact quiet_quiet S (behindN_ltB S u)
          | false => exact quiet_quiet S (stepN_ltB S.sb _ _)
      rw [hq] at hto
      have hyy : (comesN m' l' (2 ^ y) 0).testBit y = true := (quiet_sub m' l' (2 ^ y)).test (by rw [Nat.testBit_two_pow]; exact decide_eq_true rfl)
      exact and_ne ((hmem _ _).2 ⟨hy, w, hw, hto, hy1⟩) hyy
    · have hlab : Lab (w ++ [z.2.1]) := Lab.snoc.2 ⟨hw, by omega, by omega⟩
      have hne : behindN m l (w ++ [z.2.1]) ≠ 0 := by
        intro h1
        rw [behindN_snoc] at h1
        rw [h1] at hto; simp at hto
      have hne' : behindN m' l' (w ++ [z.2.1]) ≠ 0 := fun h1 => h _ ⟨hlab, hne, h1⟩
      obtain ⟨y', hy'⟩ := Nat.exists_testBit_of_ne_zero hne'
      have hs : behindN m' l' w = 2 ^ y := by
        refine Nat.eq_of_testBit_eq fun k => ?_
        rw [Nat.testBit_two_pow]
        by_cases hk : y = k
        · subst hk; rw [hy1]; exact (decide_eq_true rfl).symm
        · rw [decide_eq_false hk, Bool.eq_false_iff]
          exact fun h2 => hk (plain_behind S' hp w y k hy1 h2)
      have hy2 : y' < m' := by
        rcases Nat.lt_or_ge y' m' with h1 | h1
        · exact h1
        · rw [Nat.testBit_lt_two_pow (Nat.lt_of_lt_of_le (behindN_ltB S' _) (Nat.pow_le_pow_right (by decide) h1))] at hy'; cases hy'
      have hy3 := hy'
      rw [behindN_snoc, hs] at hy3
      rw [← behindN_snoc] at hto
      exact and_ne ((hmem _ _).2 ⟨hy2, _, hlab, hto, hy'⟩) hy3
end Go.Am

set_option maxRecDepth 100000
set_option linter.unusedVariables false
set_option linter.unusedSimpArgs false
set_option linter.unusedSectionVars false
namespace Go.Am
open Go
theorem R27_eq (a b : List Int) (ha : a.length < Lg) : R27 Ar.std (eInt a) (eInt b) = some (decide (a = b)) := by
  unfold R27
  have hlen : Ar.std.zeq (Ar.std.len (eInt a)) (Ar.std.len (eInt b)) = decide (a.length = b.length) := by
    rw [std_zeq, std_len, std_len, eInt, eInt, enc_length, enc_length]; exact decide_eq_decide.2 (by omega)
  rw [hlen]
  by_cases hl : a.length = b.length
  · have key := iter_rng (step := R27L0 Ar.std (eInt a) (eInt b)) a.length (fun i => !decide (a[i]? = b[i]?)) (.inr ()) (.inl ()) (fun i hi => by
      have h1 := List.getElem?_eq_getElem hi
      have h2 := List.getElem?_eq_getElem (l := b) (i := i) (by omega)
      have g1 : gt Ar.std (cI .i64) (eInt a) (i : Int) = some a[i] := gt_enc h1
      have g2 : gt Ar.std (cI .i64) (eInt b) (i : Int) = some (b[i]'(by omega)) := gt_enc h2
      unfold R27L0
      rw [eInt, ltS hi, cond_true]
      have g1' : gt Ar.std (cI .i64) (enc (cI .i64) a) (i : Int) = some a[i] := g1
      rw [g1', bsome, g2, bsome, std_zeq, inc hi ha]
      rw [h1, h2]
      have e : decide ((some a[i] : Option Int) = some (b[i]'(by omega))) = decide (a[i] = b[i]'(by omega)) := decide_eq_decide.2 (by simp)
      rw [e]
      cases decide (a[i] = b[i]'(by omega)) <;> rfl) (by
      unfold R27L0
      rw [eInt, geS, cond_false])
    rw [decide_eq_true hl, cond_true, key, bsome]
    by_cases hab : a = b
    · subst hab
      have : ((List.range a.length).any fun i => !decide (a[i]? = a[i]?)) = false := by simp
      rw [this, decide_eq_true rfl]; rfl
    · have : ((List.range a.length).any fun i => !decide (a[i]? = b[i]?)) = true := by
        rw [← Bool.not_eq_false]
        intro h
        refine hab (List.ext_getElem? fun i => ?_)
        by_cases hi : i < a.length
        · have := List.any_eq_false.1 h i (List.mem_range.2 hi)
          simpa using this
        · rw [List.getElem?_eq_none (by omega), List.getElem?_eq_none (by omega)]
      rw [this, decide_eq_false hab]; rfl
  · rw [decide_eq_false hl, cond_false, decide_eq_false (fun e => hl (by rw [e]))]
theorem seen_lab {w : List Int} : seenL w = true ↔ Lab w := by
  unfold seenL Lab btw
  rw [List.all_eq_true]
  simp only [Bool.and_eq_true, decide_eq_true_eq]
theorem trs_has (n : Int) (l : List St3) : ∀ (d : Nat) (w tr : List Int) (now : Nat), Lab w → w.length ≤ d → w.foldl (comesN n l) now ≠ 0 → tr ++ w ∈ trs n l d tr now
  | 0, w, tr, now, _, hw, h => by
    have : w = [] := List.eq_nil_of_length_eq_zero (by omega)
    subst this
    have h' : now ≠ 0 := h
    unfold trs
    rw [decide_eq_false h']; simp
  | d + 1, w, tr, now, hl, hw, h => by
    have hn : now ≠ 0 := by
      rintro rfl
      exact h (foldl_zero (fun lab => comesN_zero n l lab) w)
    unfold trs
    rw [decide_eq_false hn, cond_false]
    cases w with
    | nil => simp
    | cons a w =>
      refine List.mem_cons.2 (.inr (List.mem_flatMap.2 ⟨a, ?_, ?_⟩))
      · have := hl a (by simp)
        have : a = 1 ∨ a = 2 ∨ a = 3 := by omega
        rcases this with rfl | rfl | rfl <;> simp
      · have := trs_has n l d w (tr ++ [a]) (comesN n l now a) (fun x hx => hl x (by simp [hx])) (by simpa using hw) h
        rw [List.append_assoc] at this
        exact this
theorem bif_bool2 (c : Bool) : (bif c then some false else some false : Option Bool) = some false := by cases c <;> rfl
theorem shw_spec {m m' : Nat} {l l' : List St3} (S : Sys m l) (S' : Sys m' l') (hv : vSys (m : Int) l = true) (hv' : vSys (m' : Int) l' = true) :
    (∃ t, shw m l m' l' = (t, 0) ∧ First (comesN m l) (comesN m' l') (q0 m l m' l') t) ∨ (shw m l m' l' = ([], 5) ∧ ∀ w, ¬ Sep (comesN m l) (comesN m' l') (q0 m l m' l') w) := by
  have hq := shw_min S S'
  unfold shw
  rw [hv, hv', cond_true, cond_true]
  generalize look (comesN m l) (comesN m' l') 9000 [(quietN m l 1, quietN m' l' 1, [])] [(quietN m l 1, quietN m' l' 1)] = o at hq
  cases o with
  | none => exact .inr ⟨rfl, hq⟩
  | some t => exact .inl ⟨t, rfl, hq⟩
theorem isTr_lab {n : Int} {l : List St3} (hv : vSys n l = true) {w : List Int} (hw : Lab w) (hl : w.length ≤ 1000) : isTr n l w = (!decide (behindN n l w = 0), 0) := by
  unfold isTr
  rw [hv, cond_true, seen_lab.2 hw, decide_eq_false (by omega)]; rfl
theorem isTr_bad {n : Int} {l : List St3} (hv : vSys n l = true) {w : List Int} (hw : (decide ((1000 : Int) < w.length) || !seenL w) = true) : isTr n l w = (false, 2) := by
  unfold isTr
  rw [hv, cond_true, hw]; rfl
theorem plain_eq {n : Int} {l : List St3} (hl : l.length < Lg) (hv : vSys n l = true) : R25 Ar.std n (eSt l) = some (plainD l, 0) := by
  rw [R25_eq n l hl, hv, cond_true, plain_same hv]
theorem R8_ok (n n' : Int) (l l' : List St3) (hl : l.length < Lg) (hl' : l'.length < Lg) (tr : List Int) (htr : tr.length < Lg) : R8 Ar.std n (eSt l) n' (eSt l') (eInt tr) = some true := by
  have h42 := R42_eq [(n, l), (n', l')] (by show 2 < 9223372036854775808; decide) (fun s hs => by
    rcases List.mem_cons.1 hs with rfl | hs
    · exact hl
    · rw [List.mem_singleton] at hs; subst hs; exact hl')
  have h42' : R42 Ar.std [.agg [.int .i64 n, .list 3 (eSt l)], .agg [.int .i64 n', .list 3 (eSt l')]] = some (okSy (n, l) && okSy (n', l')) := by
    have e : [(n, l), (n', l')].all okSy = (okSy (n, l) && okSy (n', l')) := by simp
    rw [e] at h42; exact h42
  have hlt : Ar.std.len (eInt tr) = (tr.length : Int) := by rw [eInt, len_enc]
  unfold R8
  rw [h42', bsome, hlt, std_zlt]
  have hmain : (bif (okSy (n, l) && okSy (n', l')) then some (decide ((100 : Int) < tr.length)) else some true) = some (bif (okSy (n, l) && okSy (n', l')) then decide ((100 : Int) < tr.length) else true) := by
    cases (okSy (n, l) && okSy (n', l')) <;> rfl
  rw [hmain, bsome]
  cases hv0 : (okSy (n, l) && okSy (n', l')) with
  | false => rw [cond_false, cond_true, R17_eq]; rfl
  | true =>
    obtain ⟨hv, hv'⟩ := and2 hv0
    have hv : vSys n l = true := okSy_v hv
    have hv' : vSys n' l' = true := okSy_v hv'
    rw [cond_true]
    cases hlong : decide ((100 : Int) < tr.length) with
    | true => rw [cond_true, R17_eq]; rfl
    | false =>
      have hlen : tr.length ≤ 100 := by have := of_decide_eq_false hlong; omega
      obtain ⟨m, rfl, S⟩ := Sys.of hv
      obtain ⟨m', rfl, S'⟩ := Sys.of hv'
      have h44 := R44_eq m m' l l' hl hl'
      rw [rfn_of rfl rfl hv hv'] at h44
      have h23 := R23_eq m m' l l' hl hl'
      have h25 := plain_eq hl' hv'
      have t1 := R18_eq m l hl tr htr
      have t2 := R18_eq m' l' hl' tr htr
      rw [cond_false, h44, bsome]
      dsimp only
      rw [h23, bsome]
      dsimp only
      rw [h25, bsome]
      dsimp only
      rcases shw_spec S S' hv hv' with ⟨t, hs, hF⟩ | ⟨hs, hno⟩
      · 
        have hr : (bestF m l m' l' 0).testBit 0 = false := by
          rw [Bool.eq_false_iff]
          exact fun hb => refines_traces S S' hb t hF.1.2.1 hF.1.2.2
        have hshort := first_short S S' hF
        have htl := isTr_lab hv hF.1.1 (by omega)
        have hta := isTr_lab hv' hF.1.1 (by omega)
        have e1 : behindN m l t ≠ 0 := hF.1.2.1
        have e2 : behindN m' l' t = 0 := hF.1.2.2
        rw [decide_eq_false e1] at htl
        rw [decide_eq_true e2] at hta
        have ht9 : t.length < Lg := by show t.length < 9223372036854775808; omega
        have g1 := R18_eq m l hl t ht9
        have g2 := R18_eq m' l' hl' t ht9
        rw [htl] at g1
        rw [hta] at g2
        obtain ⟨u, b, rfl⟩ : ∃ u b, t = u ++ [b] := by
          rcases List.eq_nil_or_concat t with rfl | ⟨u, b, rfl⟩
          · exact absurd e2 (quiet_pos m' l')
          · exact ⟨u, b, List.concat_eq_append⟩
        obtain ⟨hlu, hlb⟩ := Lab.snoc.1 hF.1.1
        have hul : u.length ≤ 383 := by rw [List.length_append, List.length_singleton] at hshort; omega
        have e3 : behindN m' l' u ≠ 0 := fun h0 => by
          have hsu : Sep (comesN m l) (comesN m' l') (q0 m l m' l') u := ⟨hlu, (fun h1 => e1 (by
            rw [behindN_snoc]
            have : behindN m l u = 0 := h1
            rw [this, comesN_zero])), h0⟩
          have := hF.2 u hsu
          rw [num_snoc] at this
          omega
        have hu9 : u.length < Lg := by show u.length < 9223372036854775808; omega
        have g3 := R18_eq m' l' hl' u hu9
        rw [isTr_lab hv' hlu (by omega), decide_eq_false e3] at g3
        have htlen : Ar.std.len (eInt (u ++ [b])) = ((u.length + 1 : Nat) : Int) := by rw [eInt, len_enc, List.length_append, List.length_singleton]
        have hsl : sl Ar.std (eInt (u ++ [b])) 0 (Ar.std.wrp .i64 (Ar.std.zsub (Ar.std.len (eInt (u ++ [b]))) 1)) = some (eInt u) := by
          rw [htlen, prevW (by omega) (by show u.length + 1 < 9223372036854775808; omega), Nat.add_sub_cancel, eInt, sl_encT (by simp), List.take_left]; rfl
        
        have hx : ∃ x y e, isTr m l tr = (x, e) ∧ isTr m' l' tr = (y, e) ∧ (x = true → y = false → u.length + 1 ≤ tr.length) := by
          cases hw : (decide ((1000 : Int) < tr.length) || !seenL tr) with
          | true => exact ⟨false, false, 2, isTr_bad hv hw, isTr_bad hv' hw, fun h => by cases h⟩
          | false =>
            rw [Bool.or_eq_false_iff, Bool.not_eq_false'] at hw
            have hlab := seen_lab.1 hw.2
            refine ⟨_, _, 0, isTr_lab hv hlab (by omega), isTr_lab hv' hlab (by omega), fun h1 h2 => ?_⟩
            have s1 : behindN m l tr ≠ 0 := by simpa using h1
            have s2 : behindN m' l' tr = 0 := by simpa using h2
            have := len_of_num hF.1.1 hlab (hF.2 tr ⟨hlab, s1, s2⟩)
            rw [List.length_append, List.length_singleton] at this
            exact this
        obtain ⟨x, y, e, hx1, hy1, hxy⟩ := hx
        rw [hx1] at t1
        rw [hy1] at t2
        rw [hs]
        dsimp only
        rw [hr, zeqS, cond_true, cond_true, cond_true, cond_false, show Ar.std.zeq 0 5 = false from rfl, beqS, Bool.not_true, bif_bool2, bsome, cond_false, t1, bsome]
        dsimp only
        rw [t2, bsome]
        dsimp only
        have hv3 : (bif Ar.std.zeq e e then bif x then bif y then some (true, true, false) else some (true, false, false) else some (false, y, false) else some (x, y, true)) = some (x, y, false) := by
          rw [zeqS]; cases x <;> cases y <;> rfl
        rw [hv3, bsome]
        dsimp only
        have hmid : (bif Ar.std.zeq (Ar.std.len (eInt (u ++ [b]))) 0 then some true else bif Ar.std.zlt 1000 (Ar.std.len (eInt (u ++ [b]))) then some true else bif x then bif y then some false else some (Ar.std.zlt (tr.length : Int) (Ar.std.len (eInt (u ++ [b])))) else some false) = some false := by
          rw [htlen, std_zeq, std_zlt, std_zlt, decide_eq_false (by omega), decide_eq_false (by omega), cond_false, cond_false]
          cases hxc : x with
          | false => rfl
          | true =>
            cases hyc : y with
            | true => rfl
            | false => rw [cond_true, cond_false, decide_eq_false (by have := hxy hxc hyc; omega)]
        rw [cond_false, cond_true, hmid, bsome, cond_false, g1, bsome]
        dsimp only
        rw [g2, bsome]
        dsimp only
        rw [hsl, bsome, g3, bsome]
        dsimp only
        have hlast : (bif Ar.std.zeq 0 0 then bif Ar.std.zeq 0 0 then bif Ar.std.zeq 0 0 then bif !false then bif !true then some true else some (!(!false)) else some true else some true else some true else some true) = some false := by
          rw [zeqS]; rfl
        rw [hlast, bsome, cond_false]
        rw [htlen, std_zlt]
        cases h5 : decide ((5 : Int) < ((u.length + 1 : Nat) : Int)) with
        | true => rw [cond_true, R17_eq]; rfl
        | false =>
          have hle5 : u.length + 1 ≤ 5 := by have := of_decide_eq_false h5; omega
          have h20 := R20_eq m l hl ((u.length + 1 : Nat) : Int)
          have hsh : shorts m l ((u.length + 1 : Nat) : Int) = (trs m l (u.length + 1) [] (quietN m l 1), 0) := by
            unfold shorts btw
            rw [hv, cond_true, decide_eq_true (by omega), decide_eq_true (by omega), Int.toNat_natCast]; rfl
          rw [hsh] at h20
          have hin : u ++ [b] ∈ trs m l (u.length + 1) [] (quietN m l 1) := by
            have := trs_has m l (u.length + 1) (u ++ [b]) [] (quietN m l 1) hF.1.1 (by simp) e1
            exact this
          have htl4 : (trs m l (u.length + 1) [] (quietN m l 1)).length ≤ 4 ^ (u.length + 1) := trs_len m l _ _ _
          have h45 : 4 ^ (u.length + 1) ≤ 4 ^ 5 := Nat.pow_le_pow_right (by decide) hle5
          have h45' : (4 : Nat) ^ 5 = 1024 := rfl
          have hL9 : (trs m l (u.length + 1) [] (quietN m l 1)).length < Lg := by show _ < 9223372036854775808; omega
          have key := iter_fold (step := R8L0 Ar.std (eInt (u ++ [b])) (eLs (trs m l (u.length + 1) [] (quietN m l 1)))) (trs m l (u.length + 1) [] (quietN m l 1)) (fun (s : Bool) i => (s, (i : Int))) (fun s w => s || decide (w = u ++ [b])) id (fun i w s hw hi => by
            have hg : gt Ar.std (cL 1) (eLs (trs m l (u.length + 1) [] (quietN m l 1))) (i : Int) = some (eInt w) := gt_ls hw
            have hz : Ar.std.zlt (i : Int) (Ar.std.len (eLs (trs m l (u.length + 1) [] (quietN m l 1)))) = true := by rw [std_len, eLs_len]; exact ltN hi
            have hwl := trs_mem m l (u.length + 1) [] (quietN m l 1) w (List.mem_of_getElem? hw)
            rw [List.length_nil] at hwl
            unfold R8L0
            dsimp only
            rw [hz, cond_true, hg, bsome, R27_eq w (u ++ [b]) (by show w.length < 9223372036854775808; omega), bsome, inc hi hL9]
            cases s <;> rfl) (fun s => by
            unfold R8L0
            dsimp only
            rw [std_len, eLs_len, geN, cond_false]; rfl) false
          have hfold : ∀ (ws : List (List Int)) (s : Bool), ws.foldl (fun s w => s || decide (w = u ++ [b])) s = (s || ws.any fun w => decide (w = u ++ [b])) := by
            intro ws
            induction ws with
            | nil => intro s; simp
            | cons a ws ih => intro s; rw [List.foldl_cons, ih, List.any_cons, Bool.or_assoc]
          have hany : ((trs m l (u.length + 1) [] (quietN m l 1)).any fun w => decide (w = u ++ [b])) = true := List.any_eq_true.2 ⟨_, hin, decide_eq_true rfl⟩
          have key' : iter (R8L0 Ar.std (eInt (u ++ [b])) (eLs (trs m l (u.length + 1) [] (quietN m l 1)))) (false, 0) = some true := by
            have e : iter (R8L0 Ar.std (eInt (u ++ [b])) (eLs (trs m l (u.length + 1) [] (quietN m l 1)))) (false, 0) = some (id ((trs m l (u.length + 1) [] (quietN m l 1)).foldl (fun s w => s || decide (w = u ++ [b])) false)) := key
            rw [e, hfold, hany]; rfl
          rw [cond_false, h20, bsome]
          dsimp only
          rw [key', bsome, zeqS, cond_true, cond_true, R17_eq]; rfl
      · 
        have hrp : plainD l' = true → (bestF m l m' l' 0).testBit 0 = true := fun hp => plain_refines S S' hp hno
        have hx : ∃ x y e, isTr m l tr = (x, e) ∧ isTr m' l' tr = (y, e) ∧ (x = true → y = true) := by
          cases hw : (decide ((1000 : Int) < tr.length) || !seenL tr) with
          | true => exact ⟨false, false, 2, isTr_bad hv hw, isTr_bad hv' hw, fun h => by cases h⟩
          | false =>
            rw [Bool.or_eq_false_iff, Bool.not_eq_false'] at hw
            have hlab := seen_lab.1 hw.2
            refine ⟨_, _, 0, isTr_lab hv hlab (by omega), isTr_lab hv' hlab (by omega), fun h1 => ?_⟩
            have s1 : behindN m l tr ≠ 0 := by simpa using h1
            have s2 : behindN m' l' tr ≠ 0 := fun h0 => hno tr ⟨hlab, s1, h0⟩
            simpa using s2
        obtain ⟨x, y, e, hx1, hy1, hxy⟩ := hx
        rw [hx1] at t1
        rw [hy1] at t2
        rw [hs]
        dsimp only
        have hfirst : (bif Ar.std.zeq 0 0 then bif Ar.std.zeq 0 0 then bif Ar.std.zeq 5 0 then bif (bestF m l m' l' 0).testBit 0 then some true else bif plainD l' then some (!(Ar.std.beq false (Ar.std.zeq 5 5))) else some false else bif Ar.std.zeq 5 5 then bif (bestF m l m' l' 0).testBit 0 then bif plainD l' then some (!(Ar.std.beq true (Ar.std.zeq 5 5))) else some false else bif plainD l' then some (!(Ar.std.beq false (Ar.std.zeq 5 5))) else some false else some true else some true else some true) = some false := by
          rw [zeqS, zeqS, show Ar.std.zeq 5 0 = false from rfl, beqS]
          cases hp : plainD l' with
          | false => cases (bestF m l m' l' 0).testBit 0 <;> rfl
          | true => rw [hrp hp]; rfl
        rw [hfirst, bsome, cond_false, t1, bsome]
        dsimp only
        rw [t2, bsome]
        dsimp only
        have hv3 : (bif Ar.std.zeq e e then bif x then bif y then some (true, true, false) else some (true, false, !(Ar.std.zeq 5 0)) else some (false, y, false) else some (x, y, true)) = some (x, y, false) := by
          rw [zeqS]
          cases hxc : x with
          | false => rfl
          | true => rw [hxy hxc]; rfl
        rw [hv3, bsome]
        dsimp only
        rw [cond_false, show Ar.std.zeq 5 0 = false from rfl, cond_false, show Ar.std.zeq (Ar.std.len (eInt [])) 0 = true from rfl, cond_true, R17_eq]; rfl
end Go.Am
