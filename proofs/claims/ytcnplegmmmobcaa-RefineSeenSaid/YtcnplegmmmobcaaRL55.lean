/- Own text: RL55. -/
import Derived.Test.YtcnplegmmmobcaaRL36
set_option maxRecDepth 100000
set_option linter.unusedVariables false
set_option linter.unusedSimpArgs false
set_option linter.unusedSectionVars false
namespace Go.Am
open Go
end Go.Am

set_option maxRecDepth 100000
set_option linter.unusedVariables false
set_option linter.unusedSimpArgs false
set_option linter.unusedSectionVars false
namespace Go.Am
open Go
theorem orAll_test (g : Nat → Nat) (l : List Nat) (z : Nat) : (orAll g l).testBit z = l.any fun y => (g y).testBit z := by
  induction l with
  | nil => simp [orAll]
  | cons a l ih => rw [orAll_cons, Nat.testBit_or, ih, List.any_cons]
end Go.Am

set_option maxRecDepth 100000
set_option linter.unusedVariables false
set_option linter.unusedSimpArgs false
set_option linter.unusedSectionVars false
namespace Go.Am
open Go
def part (k : Nat) (f : Nat → Nat) (x : Nat) : Nat := if x < k then f x else 0
end Go.Am

set_option maxRecDepth 100000
set_option linter.unusedVariables false
set_option linter.unusedSimpArgs false
set_option linter.unusedSectionVars false
namespace Go.Am
open Go
def itr {α : Type} (f : α → α) : Nat → α → α
  | 0, s => s
  | k + 1, s => itr f k (f s)
theorem itr_fix {α : Type} {f : α → α} {s : α} (h : f s = s) : ∀ k, itr f k s = s
  | 0 => rfl
  | k + 1 => by rw [itr, h]; exact itr_fix h k
def clr (a y : Nat) : Nat := a &&& (63 - 2 ^ y)
theorem clr_all : ∀ (a : Fin 64) (y z : Fin 6), (clr a.val y.val).testBit z.val = (a.val.testBit z.val && !decide (z.val = y.val)) := by decide +kernel
theorem clr_lt (a y : Nat) : clr a y < 64 := Nat.lt_of_le_of_lt Nat.and_le_right (by have := Nat.sub_le 63 (2 ^ y); omega)
theorem high_false {a z : Nat} (h : a < 64) (hz : 6 ≤ z) : a.testBit z = false := Nat.testBit_lt_two_pow (Nat.lt_of_lt_of_le h (Nat.pow_le_pow_right (n := 2) (by decide) hz))
theorem clr_test {a y : Nat} (ha : a < 64) (hy : y < 6) (z : Nat) : (clr a y).testBit z = (a.testBit z && !decide (z = y)) := by
  rcases Nat.lt_or_ge z 6 with hz | hz
  · exact clr_all ⟨a, ha⟩ ⟨y, hy⟩ ⟨z, hz⟩
  · rw [high_false (clr_lt a y) hz, high_false ha hz]; rfl
theorem andNot_u8 : ∀ (a : Fin 64) (y : Fin 6), bitsStd .andNot .u8 ((a.val : Nat) : Int) ((2 ^ y.val : Nat) : Int) = ((clr a.val y.val : Nat) : Int) := by decide +kernel
theorem card_clr {a y : Nat} (ha : a < 64) (hy : y < 6) (h : a.testBit y = true) : card 6 (clr a y) < card 6 a := by
  unfold card
  refine countP_lt (fun z hz => ?_) (List.mem_range.2 hy) ?_ h
  · rw [clr_test ha hy] at hz
    simp only [Bool.and_eq_true] at hz
    exact hz.1
  · rw [clr_test ha hy]; simp
def sizeF (f : Nat → Nat) : Nat := card 6 (f 0) + card 6 (f 1) + card 6 (f 2) + card 6 (f 3) + card 6 (f 4) + card 6 (f 5)
theorem size_upd {f : Nat → Nat} {x v : Nat} (hx : x < 6) (h : card 6 v < card 6 (f x)) : sizeF (upd f x v) < sizeF f := by
  unfold sizeF upd
  match x, hx with
  | 0, _ => simp; omega
  | 1, _ => simp; omega
  | 2, _ => simp; omega
  | 3, _ => simp; omega
  | 4, _ => simp; omega
  | 5, _ => simp; omega
section
variable (K : (Nat → Nat) → Nat → Nat → Bool)
def dwc (x : Nat) (f : Nat → Nat) (y : Nat) : Nat → Nat := bif K f x y then f else upd f x (clr (f x) y)
def dwx (f : Nat → Nat) (x : Nat) : Nat → Nat := (bl (f x)).foldl (dwc K x) f
def dws (m : Nat) (f : Nat → Nat) : Nat → Nat := (List.range m).foldl (dwx K) f
def swc (x : Nat) (s : Bool × (Nat → Nat)) (y : Nat) : Bool × (Nat → Nat) := bif K s.2 x y then s else (true, upd s.2 x (clr (s.2 x) y))
def swx (s : Bool × (Nat → Nat)) (x : Nat) : Bool × (Nat → Nat) := (bl (s.2 x)).foldl (swc K x) s
def sws (m : Nat) (f : Nat → Nat) : Bool × (Nat → Nat) := (List.range m).foldl (swx K) (false, f)
variable {K}
theorem swc_snd (x : Nat) (s : Bool × (Nat → Nat)) (y : Nat) : (swc K x s y).2 = dwc K x s.2 y := by
  unfold swc dwc; cases K s.2 x y <;> rfl
theorem foldl_snd {α β γ : Type} {f : α × β → γ → α × β} {g : β → γ → β} (h : ∀ s c, (f s c).2 = g s.2 c) : ∀ (l : List γ) (s : α × β), (l.foldl f s).2 = l.foldl g s.2
  | [], _ => rfl
  | c :: l, s => by rw [List.foldl_cons, List.foldl_cons, foldl_snd h l, h]
theorem swx_snd (s : Bool × (Nat → Nat)) (x : Nat) : (swx K s x).2 = dwx K s.2 x := foldl_snd (fun s y => swc_snd x s y) _ s
theorem sws_snd (m : Nat) (f : Nat → Nat) : (sws K m f).2 = dws K m f := foldl_snd (fun s x => swx_snd s x) _ (false, f)
theorem dwc_lt {x : Nat} {f : Nat → Nat} {y : Nat} (h : ∀ i, f i < 64) (i : Nat) : dwc K x f y i < 64 := by
  unfold dwc
  cases K f x y with
  | true => exact h i
  | false =>
    show upd f x (clr (f x) y) i < 64
    unfold upd; split
    · exact clr_lt _ _
    · exact h i
theorem fold_ltK {γ : Type} {g : (Nat → Nat) → γ → (Nat → Nat)} (hg : ∀ f c, (∀ i, f i < 64) → ∀ i, g f c i < 64) : ∀ (l : List γ) (f : Nat → Nat), (∀ i, f i < 64) → ∀ i, l.foldl g f i < 64
  | [], f, h => h
  | c :: l, f, h => fold_ltK hg l (g f c) (hg f c h)
theorem dwx_lt {f : Nat → Nat} {x : Nat} (h : ∀ i, f i < 64) : ∀ i, dwx K f x i < 64 := fold_ltK (fun f y h => dwc_lt h) _ f h
theorem dws_lt {m : Nat} {f : Nat → Nat} (h : ∀ i, f i < 64) : ∀ i, dws K m f i < 64 := fold_ltK (fun f x h => dwx_lt h) _ f h
structure Ch (s t : Bool × (Nat → Nat)) : Prop where
  no : t.1 = false → s.1 = false ∧ t.2 = s.2
  yes : t.1 = true → s.1 = true ∨ sizeF t.2 < sizeF s.2
  le : sizeF t.2 ≤ sizeF s.2
theorem Ch.refl (s : Bool × (Nat → Nat)) : Ch s s := ⟨fun h => ⟨h, rfl⟩, fun h => .inl h, Nat.le_refl _⟩
theorem Ch.trans {s t u : Bool × (Nat → Nat)} (h : Ch s t) (h' : Ch t u) : Ch s u := by
  refine ⟨fun hu => ?_, fun hu => ?_, Nat.le_trans h'.le h.le⟩
  · obtain ⟨a, b⟩ := h'.no hu
    obtain ⟨c, d⟩ := h.no a
    exact ⟨c, b.trans d⟩
  · rcases h'.yes hu with a | a
    · rcases h.yes a with b | b
      · exact .inl b
      · exact .inr (Nat.lt_of_le_of_lt h'.le b)
    · exact .inr (Nat.lt_of_lt_of_le a h.le)
theorem swc_fold {x : Nat} (hx : x < 6) : ∀ (ys : List Nat) (s : Bool × (Nat → Nat)), ys.Nodup → (∀ i, s.2 i < 64) → (∀ y ∈ ys, y < 6 ∧ (s.2 x).testBit y = true) →
    Ch s (ys.foldl (swc K x) s) ∧ ((ys.foldl (swc K x) s).1 = false → ∀ y ∈ ys, K s.2 x y = true)
  | [], s, _, _, _ => ⟨Ch.refl s, fun _ y hy => by cases hy⟩
  | y :: ys, s, hn, h64, hy => by
    have hn' := List.nodup_cons.1 hn
    have hy0 := hy y (by simp)
    rw [List.foldl_cons]
    unfold swc
    cases hK : K s.2 x y with
    | true =>
      rw [cond_true]
      have ih := swc_fold hx ys s hn'.2 h64 fun z hz => hy z (by simp [hz])
      refine ⟨ih.1, fun h z hz => ?_⟩
      rcases List.mem_cons.1 hz with rfl | hz
      · exact hK
      · exact ih.2 h z hz
    | false =>
      rw [cond_false]
      have ih := swc_fold hx ys (true, upd s.2 x (clr (s.2 x) y)) hn'.2 (fun i => by
        show upd s.2 x (clr (s.2 x) y) i < 64
        unfold upd; split
        · exact clr_lt _ _
        · exact h64 i) (fun z hz => by
        refine ⟨(hy z (by simp [hz])).1, ?_⟩
        show (upd s.2 x (clr (s.2 x) y) x).testBit z = true
        unfold upd
        have hne : ¬ z = y := fun e => hn'.1 (by rw [← e]; exact hz)
        rw [if_pos rfl, clr_test (h64 x) hy0.1, (hy z (by simp [hz])).2, decide_eq_false hne]; rfl)
      have hc : Ch s (true, upd s.2 x (clr (s.2 x) y)) := by
        have := size_upd hx (card_clr (h64 x) hy0.1 hy0.2)
        exact ⟨fun h => (by cases h), fun _ => .inr this, Nat.le_of_lt this⟩
      refine ⟨hc.trans ih.1, fun h => ?_⟩
      have := (ih.1.no h).1
      cases this
theorem swx_ch {s : Bool × (Nat → Nat)} {x : Nat} (hx : x < 6) (h64 : ∀ i, s.2 i < 64) : Ch s (swx K s x) ∧ ((swx K s x).1 = false → ∀ y ∈ bl (s.2 x), K s.2 x y = true) :=
  swc_fold hx _ s (bl_nodup _) h64 fun y hy => mem_bl.1 hy
theorem swx_fold : ∀ (xs : List Nat) (s : Bool × (Nat → Nat)), (∀ x ∈ xs, x < 6) → (∀ i, s.2 i < 64) →
    Ch s (xs.foldl (swx K) s) ∧ ((xs.foldl (swx K) s).1 = false → ∀ x ∈ xs, ∀ y ∈ bl (s.2 x), K s.2 x y = true)
  | [], s, _, _ => ⟨Ch.refl s, fun _ y hy => by cases hy⟩
  | x :: xs, s, hx, h64 => by
    have h1 := swx_ch (K := K) (s := s) (hx x (by simp)) h64
    have ih := swx_fold xs (swx K s x) (fun z hz => hx z (by simp [hz])) (by rw [swx_snd]; exact dwx_lt h64)
    rw [List.foldl_cons]
    refine ⟨h1.1.trans ih.1, fun h => ?_⟩
    obtain ⟨a, b⟩ := ih.1.no h
    obtain ⟨c, d⟩ := h1.1.no a
    intro z hz
    rcases List.mem_cons.1 hz with rfl | hz
    · exact h1.2 a
    · have := ih.2 h z hz
      rw [d] at this
      exact this
theorem sws_ch {m : Nat} (hm : m ≤ 6) {f : Nat → Nat} (h64 : ∀ i, f i < 64) : Ch (false, f) (sws K m f) ∧ ((sws K m f).1 = false → ∀ x, x < m → ∀ y ∈ bl (f x), K f x y = true) := by
  have h := swx_fold (K := K) (List.range m) (false, f) (fun x hx => by have := List.mem_range.1 hx; omega) h64
  exact ⟨h.1, fun hh x hx => h.2 hh x (List.mem_range.2 hx)⟩
theorem fix_of {m : Nat} (hm : m ≤ 6) {f : Nat → Nat} (h64 : ∀ i, f i < 64) (h : (sws K m f).1 = false) : dws K m f = f := by
  rw [← sws_snd]; exact ((sws_ch hm h64).1.no h).2
def subF (p f : Nat → Nat) : Prop := ∀ x, Wi (p x) (f x)
def isPf (K : (Nat → Nat) → Nat → Nat → Bool) (m : Nat) (f : Nat → Nat) : Prop := ∀ x, x < m → ∀ y ∈ bl (f x), K f x y = true
theorem dwc_sub (hK : ∀ f g x y, subF f g → K f x y = true → K g x y = true) {p f : Nat → Nat} {x y : Nat} (hy : y < 6) (h64 : f x < 64) (hp : ∀ z ∈ bl (p x), K p x z = true) (h : subF p f) : subF p (dwc K x f y) := by
  unfold dwc
  cases hk : K f x y with
  | true => exact h
  | false =>
    intro i
    show Wi (p i) (upd f x (clr (f x) y) i)
    unfold upd
    split
    · rename_i hi
      subst hi
      refine Nat.eq_of_testBit_eq fun z => ?_
      rw [Nat.testBit_or, clr_test h64 hy]
      cases hz : (p i).testBit z with
      | false => rfl
      | true =>
        have h1 := (h i).test hz
        have : z ≠ y := by
          rintro rfl
          have := hK p f i z h (hp z (mem_bl.2 ⟨hy, hz⟩))
          rw [hk] at this; cases this
        rw [h1, decide_eq_false this]; rfl
    · exact h i
theorem dwx_sub (hK : ∀ f g x y, subF f g → K f x y = true → K g x y = true) {p : Nat → Nat} {x : Nat} (hp : ∀ z ∈ bl (p x), K p x z = true) : ∀ (ys : List Nat) {f : Nat → Nat}, (∀ y ∈ ys, y < 6) → (∀ i, f i < 64) → subF p f → subF p (ys.foldl (dwc K x) f)
  | [], f, _, _, h => h
  | y :: ys, f, hy, h64, h => dwx_sub hK hp ys (fun z hz => hy z (by simp [hz])) (dwc_lt h64) (dwc_sub hK (hy y (by simp)) (h64 x) hp h)
theorem dws_sub (hK : ∀ f g x y, subF f g → K f x y = true → K g x y = true) {p : Nat → Nat} : ∀ (xs : List Nat) {f : Nat → Nat}, (∀ x ∈ xs, ∀ z ∈ bl (p x), K p x z = true) → (∀ i, f i < 64) → subF p f → subF p (xs.foldl (dwx K) f)
  | [], f, _, _, h => h
  | x :: xs, f, hp, h64, h => dws_sub hK xs (fun z hz => hp z (by simp [hz])) (dwx_lt h64) (dwx_sub hK (hp x (by simp)) _ (fun y hy => (mem_bl.1 hy).1) h64 h)
theorem itr_sub (hK : ∀ f g x y, subF f g → K f x y = true → K g x y = true) {m : Nat} {p : Nat → Nat} (hp : isPf K m p) : ∀ (k : Nat) {f : Nat → Nat}, (∀ i, f i < 64) → subF p f → subF p (itr (dws K m) k f)
  | 0, f, _, h => h
  | k + 1, f, h64, h => itr_sub hK hp k (dws_lt h64) (dws_sub hK _ (fun x hx => hp x (List.mem_range.1 hx)) h64 h)
end
end Go.Am

set_option maxRecDepth 100000
set_option linter.unusedVariables false
set_option linter.unusedSimpArgs false
set_option linter.unusedSectionVars false
namespace Go.Am
open Go
def badK (m' : Nat) (l' : List St3) (f : Nat → Nat) (x y : Nat) (z : St3) : Bool := decide (z.1 = (x : Int)) && decide (comesN m' l' (2 ^ y) z.2.1 &&& f z.2.2.toNat = 0)
def keepN (l : List St3) (m' : Nat) (l' : List St3) (f : Nat → Nat) (x y : Nat) : Bool := !l.any (badK m' l' f x y)
theorem andS {a b : Nat} (ha : a < 64) (hb : b < 64) : Ar.std.bits .and .u8 (a : Int) (b : Int) = ((a &&& b : Nat) : Int) := by rw [std_bits]; exact and_u8 a b (by omega) (by omega)
def badL (l : List St3) (m' : Nat) (l' : List St3) (f : Nat → Nat) (x y lab : Nat) : Bool := (bl (stepN l (2 ^ x) (lab : Int))).any fun to => decide (f to &&& comesN m' l' (2 ^ y) (lab : Int) = 0)
theorem step_mem {l : List St3} (hl : SOk l) {x lab : Nat} (to : Nat) : to ∈ bl (stepN l (2 ^ x) (lab : Int)) ↔ ∃ z ∈ l, z.2.1 = (lab : Int) ∧ z.1 = (x : Int) ∧ z.2.2 = (to : Int) := by
  rw [mem_bl, stepN_test]
  simp only [List.any_eq_true, goes, Bool.and_eq_true, decide_eq_true_eq, Nat.testBit_two_pow]
  constructor
  · rintro ⟨h6, z, hz, ⟨h1, h2⟩, h3⟩
    have := hl.2 z hz
    exact ⟨z, hz, h1, by omega, by omega⟩
  · rintro ⟨z, hz, h1, h2, h3⟩
    have := hl.2 z hz
    refine ⟨by omega, z, hz, ⟨h1, by omega⟩, by omega⟩
theorem keep_labels {l : List St3} (hl : SOk l) (m' : Nat) (l' : List St3) (f : Nat → Nat) (x y : Nat) : (List.range 4).any (badL l m' l' f x y) = l.any (badK m' l' f x y) := by
  rw [Bool.eq_iff_iff]
  simp only [List.any_eq_true, List.mem_range, badL, badK, Bool.and_eq_true, decide_eq_true_eq]
  constructor
  · rintro ⟨lab, hlab, to, hto, h0⟩
    obtain ⟨z, hz, h1, h2, h3⟩ := (step_mem hl to).1 hto
    refine ⟨z, hz, h2, ?_⟩
    rw [h1, h3, Int.toNat_natCast, Nat.and_comm]; exact h0
  · rintro ⟨z, hz, h1, h2⟩
    have := hl.2 z hz
    have e : ((z.2.1.toNat : Nat) : Int) = z.2.1 := by omega
    refine ⟨z.2.1.toNat, by omega, z.2.2.toNat, (step_mem hl _).2 ⟨z, hz, by omega, h1, by omega⟩, ?_⟩
    rw [e, Nat.and_comm]; exact h2
theorem R99_eq {m m' : Nat} {l l' : List St3} (S : Sys m l) (S' : Sys m' l') {f : Nat → Nat} (hf : ∀ i, f i < 64) {x y : Nat} (hx : x < 6) (hy : y < m') : R99 Ar.std (rU f) (x : Int) (y : Int) (FR m l (tF m l)) (FR m' l' (tF m' l')) = some (keepN l m' l' f x y) := by
  have hm' := S'.le
  have hy6 : y < 6 := by omega
  have key := iter_stop (step := R99L1 Ar.std (rU f) (x : Int) (y : Int) (FR m l (tF m l)) (FR m' l' (tF m' l'))) 4 (fun i => (i : Int)) (badL l m' l' f x y) () (fun lab hlab _ => by
    have hs : tF m l (6 * lab + x) = stepN l (2 ^ x) (lab : Int) := by
      rw [tF_step _ (by omega), show (6 * lab + x) % 6 = x from by omega, show (6 * lab + x) / 6 = lab from by omega]
    have hst : stepN l (2 ^ x) (lab : Int) < 64 := stepN_lt S.ok _ _
    have hc : tF m' l' (24 + 6 * lab + y) = comesN m' l' (2 ^ y) (lab : Int) := tF_comes hlab hy hy6
    have hc64 : comesN m' l' (2 ^ y) (lab : Int) < 64 := lt64 hm' (comesN_ltB S'.sb (Nat.pow_lt_pow_right (by decide) hy) _)
    have inner := iter_stop (step := R99L0 Ar.std (rU f) (y : Int) (FR m' l' (tF m' l')) (lab : Int) (eInt (cNs (bl (stepN l (2 ^ x) (lab : Int)))))) (bl (stepN l (2 ^ x) (lab : Int))).length (fun i => (i : Int)) (fun i => ((bl (stepN l (2 ^ x) (lab : Int)))[i]?.map fun to => decide (f to &&& comesN m' l' (2 ^ y) (lab : Int) = 0)).getD false) () (fun i hi _ => by
      have ha := List.getElem?_eq_getElem hi
      generalize (bl (stepN l (2 ^ x) (lab : Int)))[i] = a at ha
      have ha6 : a < 6 := (mem_bl.1 (List.mem_of_getElem? ha)).1
      have hlt : Ar.std.zlt (i : Int) (Ar.std.len (eInt (cNs (bl (stepN l (2 ^ x) (lab : Int)))))) = true := by rw [eIc_len]; exact ltN hi
      have hgt : gt Ar.std (cI .i64) (eInt (cNs (bl (stepN l (2 ^ x) (lab : Int))))) (i : Int) = some (a : Int) := gt_enc (cNs_get ha)
      have hb := bl_len (stepN l (2 ^ x) (lab : Int))
      have hix := ix3 lab y 24
      have hstep : R99L0 Ar.std (rU f) (y : Int) (FR m' l' (tF m' l')) (lab : Int) (eInt (cNs (bl (stepN l (2 ^ x) (lab : Int))))) (i : Int) = some (bif decide (f a &&& comesN m' l' (2 ^ y) (lab : Int) = 0) then .inr (.inr ()) else .inl ((i + 1 : Nat) : Int)) := by
        unfold R99L0
        rw [hlt, cond_true, hgt, bsome, ckN, bsome, ckL ha6, bsome, ix1, rU_gc _ ha6, bsome, ckN, bsome, ckL hlab, bsome, ckN, bsome, ckL hy6, bsome, hix, FR_gc _ _ _ (by omega), bsome, hc, andS (hf a) hc64, zeqN, inc (by omega : i < 100) (by decide)]
        cases decide (f a &&& comesN m' l' (2 ^ y) (lab : Int) = 0) <;> rfl
      rw [ha, Option.map_some, Option.getD_some]
      exact ⟨fun hb => by rw [hstep, hb, cond_false], fun hb => ⟨(), by rw [hstep, hb, cond_true]⟩⟩) (fun _ => by
      unfold R99L0
      rw [show Ar.std.zlt ((bl (stepN l (2 ^ x) (lab : Int))).length : Int) (Ar.std.len (eInt (cNs (bl (stepN l (2 ^ x) (lab : Int)))))) = false from by rw [eIc_len]; exact geN _, cond_false])
    have hany : (List.range (bl (stepN l (2 ^ x) (lab : Int))).length).any (fun i => ((bl (stepN l (2 ^ x) (lab : Int)))[i]?.map fun to => decide (f to &&& comesN m' l' (2 ^ y) (lab : Int) = 0)).getD false) = badL l m' l' f x y lab := by
      unfold badL
      rw [Bool.eq_iff_iff]
      simp only [List.any_eq_true, List.mem_range]
      constructor
      · rintro ⟨i, hi, h⟩
        rw [List.getElem?_eq_getElem hi, Option.map_some, Option.getD_some] at h
        exact ⟨_, List.getElem_mem hi, h⟩
      · rintro ⟨a, ha, h⟩
        obtain ⟨i, hi, rfl⟩ := List.getElem_of_mem ha
        exact ⟨i, hi, by rw [List.getElem?_eq_getElem hi, Option.map_some, Option.getD_some]; exact h⟩
    rw [hany] at inner
    have hix2 := ix3 lab x 0
    rw [show 0 + 6 * lab + x = 6 * lab + x from by omega] at hix2
    have e0 : (((0 : Nat) : Int)) = 0 := rfl
    have hL : iter (R99L0 Ar.std (rU f) (y : Int) (FR m' l' (tF m' l')) (lab : Int) (eInt (cNs (bl (stepN l (2 ^ x) (lab : Int)))))) 0 = some (bif badL l m' l' f x y lab then .inr () else .inl ()) := by
      rw [← e0]
      rcases inner with ⟨h1, _, h3⟩ | ⟨h1, z, h3⟩
      · rw [h1]; exact h3
      · rw [h1]; exact h3
    have hstep : R99L1 Ar.std (rU f) (x : Int) (y : Int) (FR m l (tF m l)) (FR m' l' (tF m' l')) (lab : Int) = some (bif badL l m' l' f x y lab then .inr (.inr ()) else .inl ((lab + 1 : Nat) : Int)) := by
      unfold R99L1
      rw [lt4 hlab, cond_true, ckN, bsome, ckL hlab, bsome, ckN, bsome, ckL hx, bsome, hix2, FR_gc _ _ _ (by omega), bsome, hs, R76_eq _ hst, bsome, hL, bsome, inc (by omega : lab < 100) (by decide)]
      cases badL l m' l' f x y lab <;> rfl
    exact ⟨fun hb => by rw [hstep, hb, cond_false], fun hb => ⟨(), by rw [hstep, hb, cond_true]⟩⟩) (fun _ => by
    unfold R99L1
    rw [show Ar.std.zlt ((4 : Nat) : Int) 4 = false from rfl, cond_false])
  have e0 : (((0 : Nat) : Int)) = 0 := rfl
  rw [e0, keep_labels S.ok] at key
  unfold R99 keepN
  rw [rU_len, bsome]
  rcases key with ⟨h1, _, h3⟩ | ⟨h1, z, h3⟩
  · rw [h3, bsome, h1]; rfl
  · rw [h3, bsome, h1]; rfl
end Go.Am

set_option maxRecDepth 100000
set_option linter.unusedVariables false
set_option linter.unusedSimpArgs false
set_option linter.unusedSectionVars false
namespace Go.Am
open Go
section
variable {m m' : Nat} {l l' : List St3}
def allF (m m' : Nat) (x : Nat) : Nat := if x < m then 2 ^ m' - 1 else 0
theorem allF_size : ∀ (m m' : Fin 7), sizeF (allF m.val m'.val) ≤ m.val * m'.val := by decide +kernel
def bestF (m : Nat) (l : List St3) (m' : Nat) (l' : List St3) : Nat → Nat := itr (dws (keepN l m' l') m) (m * m') (allF m m')
theorem clr_ltB {a y n : Nat} (h : a < 2 ^ n) : clr a y < 2 ^ n := Nat.lt_of_le_of_lt Nat.and_le_left h
theorem dwc_inB {K : (Nat → Nat) → Nat → Nat → Bool} {x y : Nat} {f : Nat → Nat} (h : ∀ i, f i < 2 ^ m') (i : Nat) : dwc K x f y i < 2 ^ m' := by
  unfold dwc
  cases K f x y with
  | true => exact h i
  | false =>
    show upd f x (clr (f x) y) i < _
    unfold upd; split
    · exact clr_ltB (h x)
    · exact h i
theorem fold_inv {γ S : Type} {P : S → Prop} {g : S → γ → S} (hg : ∀ f c, P f → P (g f c)) : ∀ (l : List γ) (f : S), P f → P (l.foldl g f)
  | [], f, h => h
  | c :: l, f, h => fold_inv hg l (g f c) (hg f c h)
theorem dwx_inB {K : (Nat → Nat) → Nat → Nat → Bool} {x : Nat} {f : Nat → Nat} (h : ∀ i, f i < 2 ^ m') : ∀ i, dwx K f x i < 2 ^ m' := fold_inv (g := dwc K x) (P := fun f => ∀ i, f i < 2 ^ m') (fun f c h => dwc_inB (f := f) h) _ f h
theorem dws_inB {K : (Nat → Nat) → Nat → Nat → Bool} {f : Nat → Nat} (h : ∀ i, f i < 2 ^ m') : ∀ i, dws K m f i < 2 ^ m' := fold_inv (g := dwx K) (P := fun f => ∀ i, f i < 2 ^ m') (fun f c h => dwx_inB (f := f) h) _ f h
theorem itr_inB {K : (Nat → Nat) → Nat → Nat → Bool} : ∀ (k : Nat) {f : Nat → Nat}, (∀ i, f i < 2 ^ m') → ∀ i, itr (dws K m) k f i < 2 ^ m'
  | 0, f, h => h
  | k + 1, f, h => itr_inB k (dws_inB h)
theorem allF_inB (i : Nat) : allF m m' i < 2 ^ m' := by
  have := Nat.two_pow_pos m'
  unfold allF; split <;> omega
theorem lt2 {m' : Nat} (hm' : m' ≤ 6) {f : Nat → Nat} (h : ∀ i, f i < 2 ^ m') : ∀ i, f i < 64 := fun i => lt64 hm' (h i)
theorem andNotS {a y : Nat} (ha : a < 64) (hy : y < 6) : Ar.std.bits .andNot .u8 (a : Int) ((2 ^ y : Nat) : Int) = ((clr a y : Nat) : Int) := by rw [std_bits]; exact andNot_u8 ⟨a, ha⟩ ⟨y, hy⟩
theorem R90L1_eq (S : Sys m l) (S' : Sys m' l') {x : Nat} (hx : x < 6) {a : Nat} (ha : a < 2 ^ m') (s0 : Bool × (Nat → Nat)) (h0 : ∀ i, s0.2 i < 2 ^ m') :
    iter (R90L1 Ar.std (FR m l (tF m l)) (FR m' l' (tF m' l')) (x : Int) (eInt (cNs (bl a)))) (s0.1, 0, rU s0.2) = some (((bl a).foldl (swc (keepN l m' l') x) s0).1, rU ((bl a).foldl (swc (keepN l m' l') x) s0).2) := by
  have hm' := S'.le
  have hb := bl_len a
  have key := iter_foldI (step := R90L1 Ar.std (FR m l (tF m l)) (FR m' l' (tF m' l')) (x : Int) (eInt (cNs (bl a)))) (bl a) (fun (s : Bool × (Nat → Nat)) i => (s.1, (i : Int), rU s.2)) (swc (keepN l m' l') x) (fun s => (s.1, rU s.2)) (fun s => ∀ i, s.2 i < 2 ^ m') (fun i y s hy hi hI => by
    refine ⟨?_, by rw [swc_snd]; exact dwc_inB hI⟩
    have hym : y < m' := bl_lt ha (List.mem_of_getElem? hy)
    have hy6 : y < 6 := by omega
    have hlt : Ar.std.zlt (i : Int) (Ar.std.len (eInt (cNs (bl a)))) = true := by rw [eIc_len]; exact ltN hi
    have hgt : gt Ar.std (cI .i64) (eInt (cNs (bl a))) (i : Int) = some (y : Int) := gt_enc (cNs_get hy)
    unfold R90L1 swc
    dsimp only
    rw [hlt, cond_true, hgt, bsome, rU_ga, bsome, R99_eq S S' (lt2 hm' hI) hx hym, bsome, inc (by omega : i < 100) (by decide)]
    cases keepN l m' l' s.2 x y with
    | true => rfl
    | false =>
      rw [cond_false, cond_false, ckN, bsome, ckL hx, bsome, ix1, rU_gc _ hx, bsome, nkN, bsome, bsome, bsome, rU_lget _ hx, bsome, bsome, shlS (by omega), andNotS (lt2 hm' hI x) hy6, rU_lset]) (fun s _ => by
    unfold R90L1
    dsimp only
    rw [show Ar.std.zlt ((bl a).length : Int) (Ar.std.len (eInt (cNs (bl a)))) = false from by rw [eIc_len]; exact geN _, cond_false]) s0 h0
  exact key
theorem range_get {n i : Nat} {a : Nat} (h : (List.range n)[i]? = some a) : a = i ∧ i < n := by
  rw [List.getElem?_eq_some_iff] at h
  obtain ⟨h1, h2⟩ := h
  rw [List.length_range] at h1
  rw [List.getElem_range] at h2
  exact ⟨h2.symm, h1⟩
theorem R90L2_eq (S : Sys m l) (S' : Sys m' l') (s0 : Bool × (Nat → Nat)) (h0 : ∀ i, s0.2 i < 2 ^ m') :
    iter (R90L2 Ar.std (FR m l (tF m l)) (FR m' l' (tF m' l')) (m : Int)) (s0.1, 0, rU s0.2) = some (((List.range m).foldl (swx (keepN l m' l')) s0).1, rU ((List.range m).foldl (swx (keepN l m' l')) s0).2) := by
  have hm := S.le
  have hm' := S'.le
  have key := iter_foldI (step := R90L2 Ar.std (FR m l (tF m l)) (FR m' l' (tF m' l')) (m : Int)) (List.range m) (fun (s : Bool × (Nat → Nat)) i => (s.1, (i : Int), rU s.2)) (swx (keepN l m' l')) (fun s => (s.1, rU s.2)) (fun s => ∀ i, s.2 i < 2 ^ m') (fun i x s hx hi hI => by
    refine ⟨?_, by rw [swx_snd]; exact dwx_inB hI⟩
    obtain ⟨rfl, hi⟩ := range_get hx
    unfold R90L2 swx
    dsimp only
    rw [ltN hi, cond_true, ckN, bsome, ckL (by omega : x < 6), bsome, ix1, rU_gc _ (by omega), bsome, R76_eq _ (lt2 hm' hI x), bsome, R90L1_eq S S' (by omega) (hI x) s hI, bsome, inc (by omega : x < 100) (by decide)]) (fun s _ => by
    unfold R90L2
    dsimp only
    rw [List.length_range, geN, cond_false]) s0 h0
  exact key
theorem FR_gc0' (n : Int) (l : List St3) (f : Nat → Nat) : gc Ar.std (cI .i64) (FR n l f) (Ar.std.nat 0) = some n := FR_gc0 n l f
theorem R90L3_eq (S : Sys m l) (S' : Sys m' l') : ∀ (n : Nat) (f : Nat → Nat), (∀ i, f i < 2 ^ m') → sizeF f ≤ n →
    iter (R90L3 Ar.std (FR m l (tF m l)) (FR m' l' (tF m' l'))) (true, rU f) = some (rU (itr (dws (keepN l m' l') m) n f)) := by
  have step : ∀ (f : Nat → Nat), (∀ i, f i < 2 ^ m') → R90L3 Ar.std (FR m l (tF m l)) (FR m' l' (tF m' l')) (true, rU f) = some (.inl ((sws (keepN l m' l') m f).1, rU (sws (keepN l m' l') m f).2)) := fun f hf => by
    unfold R90L3
    dsimp only
    rw [cond_true, FR_gc0', bsome, R90L2_eq S S' (false, f) hf, bsome]; rfl
  have stop : ∀ (f : Nat → Nat), R90L3 Ar.std (FR m l (tF m l)) (FR m' l' (tF m' l')) (false, rU f) = some (.inr (rU f)) := fun f => by
    unfold R90L3
    dsimp only
    rw [cond_false]
  intro n
  induction n with
  | zero =>
    intro f hf hs
    have h := sws_ch (K := keepN l m' l') S.le (lt2 S'.le hf)
    have hst := step f hf
    cases hc : (sws (keepN l m' l') m f).1 with
    | false =>
      rw [hc, (h.1.no hc).2] at hst
      rw [iter_inl hst, iter_inr (stop f)]; rfl
    | true =>
      rcases h.1.yes hc with a | a
      · cases a
      · have : sizeF (sws (keepN l m' l') m f).2 < sizeF f := a
        omega
  | succ n ih =>
    intro f hf hs
    have h := sws_ch (K := keepN l m' l') S.le (lt2 S'.le hf)
    have hst := step f hf
    cases hc : (sws (keepN l m' l') m f).1 with
    | false =>
      rw [itr_fix (fix_of S.le (lt2 S'.le hf) hc)]
      rw [hc, (h.1.no hc).2] at hst
      rw [iter_inl hst, iter_inr (stop f)]
    | true =>
      rcases h.1.yes hc with a | a
      · cases a
      · have a' : sizeF (dws (keepN l m' l') m f) < sizeF f := by rw [← sws_snd]; exact a
        rw [hc, sws_snd] at hst
        rw [iter_inl hst, itr]
        exact ih _ (dws_inB hf) (by omega)
theorem bestF_inB : ∀ i, bestF m l m' l' i < 2 ^ m' := itr_inB _ allF_inB
theorem R90_eq (S : Sys m l) (S' : Sys m' l') : R90 Ar.std (FR m l (tF m l)) (FR m' l' (tF m' l')) = some (rU (bestF m l m' l')) := by
  have hm := S.le
  have hm' := S'.le
  have h2 : 2 ^ m' ≤ 64 := Nat.pow_le_pow_right (n := 2) (by decide) hm'
  have hp := Nat.two_pow_pos m'
  have key := iter_to (step := R90L0 Ar.std (FR m' l' (tF m' l')) (m : Int)) m (fun i => ((i : Int), rU (allF i m'))) (rU (allF m m')) (fun i hi => by
    have hw : Ar.std.wrp .u8 (Ar.std.zsub (Ar.std.shl .u8 1 (m' : Int)) 1) = ((2 ^ m' - 1 : Nat) : Int) := by
      rw [shlS (by omega), std_wrp, std_zsub, u8w _ (by omega) (by omega)]; omega
    have hu : upd (allF i m') i (2 ^ m' - 1) = allF (i + 1) m' := by
      funext j
      unfold upd allF
      by_cases h : j = i
      · rw [if_pos h, if_pos (by omega)]
      · rw [if_neg h]
        by_cases h2 : j < i
        · rw [if_pos h2, if_pos (by omega)]
        · rw [if_neg h2, if_neg (by omega)]
    unfold R90L0
    dsimp only
    rw [ltN hi, cond_true, FR_gc0', bsome, nkN, bsome, ckN, bsome, ckL (by omega : i < 6), bsome, ix1, rU_lget _ (by omega), bsome, hw, rU_lset, hu, inc (by omega : i < 100) (by decide)]) (by
    unfold R90L0
    dsimp only
    rw [geN, cond_false])
  have e0 : rU (allF 0 m') = rU fun _ => 0 := rU_congr fun i _ => by unfold allF; rw [if_neg (by omega)]
  rw [e0] at key
  have hsz : sizeF (allF m m') ≤ m * m' := allF_size ⟨m, by omega⟩ ⟨m', by omega⟩
  have h3 := R90L3_eq S S' (m * m') (allF m m') allF_inB hsz
  unfold R90
  have key' : iter (R90L0 Ar.std (FR m' l' (tF m' l')) (m : Int)) (0, Ar.std.rep (Int.ofNat 6) (.int .u8 0)) = some (rU (allF m m')) := by rw [rU_rep]; exact key
  rw [FR_gc0', bsome, key', bsome, h3, bsome]
  show (ga Ar.std (rU (bestF m l m' l')) _ _).bind _ = _
  rw [rU_ga, bsome, rU_len, bsome, rU_room, bsome, rU_spl, rU_len, bsome, rU_ones, bsome]
end
end Go.Am

set_option maxRecDepth 100000
set_option linter.unusedVariables false
set_option linter.unusedSimpArgs false
set_option linter.unusedSectionVars false
namespace Go.Am
open Go
section
variable {m m' : Nat} {l l' : List St3}
end
def rfn (n : Int) (l : List St3) (n' : Int) (l' : List St3) : Bool × Int :=
  bif vSys n l && vSys n' l' then ((bestF n.toNat l n'.toNat l' 0).testBit 0, 0) else (false, 50)
theorem R91_eq {a i : Nat} (ha : a < 64) (hi : i < 6) : R91 Ar.std (a : Int) (i : Int) = some (a.testBit i) := by
  unfold R91
  rw [nkN, bsome]
  have h := has_u8 a i (by omega) (by omega)
  simp only [std_zeq, std_bits, std_shr]
  rw [h]
theorem R44_eq (n n' : Int) (l l' : List St3) (hl : l.length < Lg) (hl' : l'.length < Lg) : R44 Ar.std n (eSt l) n' (eSt l') = some (rfn n l n' l') := by
  unfold R44 rfn
  rw [R70_eq n n' l l' hl hl', bsome]
  cases hv : vSys n l with
  | false => rfl
  | true =>
    cases hv' : vSys n' l' with
    | false => rfl
    | true =>
      obtain ⟨m, rfl, S⟩ := Sys.of hv
      obtain ⟨m', rfl, S'⟩ := Sys.of hv'
      have e : R90 Ar.std (FR m l (tF m l)) (FR m' l' (tF m' l')) = some (rU (bestF m l m' l')) := R90_eq S S'
      have h9 : R91 Ar.std ((bestF m l m' l' 0 : Nat) : Int) 0 = some ((bestF m l m' l' 0).testBit 0) := R91_eq (i := 0) (lt2 S'.le bestF_inB 0) (by decide)
      simp only [cond_true, Int.toNat_natCast, Bool.and_self, Sum.elim_inl]
      rw [e, bsome, rU_gc _ (by decide), bsome, h9, bsome]
end Go.Am

set_option maxRecDepth 100000
set_option linter.unusedVariables false
set_option linter.unusedSimpArgs false
set_option linter.unusedSectionVars false
namespace Go.Am
open Go
section
variable {m m' : Nat} {l l' : List St3} (S : Sys m l) (S' : Sys m' l')
include S S'
end
end Go.Am

set_option maxRecDepth 100000
set_option linter.unusedVariables false
set_option linter.unusedSimpArgs false
set_option linter.unusedSectionVars false
namespace Go.Am
open Go
def mem2 (f : Nat → Nat) (x y : Nat) : Prop := (f x).testBit y = true
theorem subF_mem {f g : Nat → Nat} (h : subF f g) {x y : Nat} (hm : mem2 f x y) : mem2 g x y := (h x).test hm
theorem subF_of {f g : Nat → Nat} (h : ∀ x y, mem2 f x y → mem2 g x y) : subF f g := fun x => by
  refine Nat.eq_of_testBit_eq fun z => ?_
  rw [Nat.testBit_or]
  cases hz : (f x).testBit z with
  | false => rfl
  | true => rw [show (g x).testBit z = true from h x z hz]; rfl
theorem subF.refl (f : Nat → Nat) : subF f f := fun x => Wi.refl _
theorem subF.trans {f g h : Nat → Nat} (a : subF f g) (b : subF g h) : subF f h := fun x => (a x).trans (b x)
section
variable (m' : Nat) (l' : List St3) (r : Nat → Nat)
def nx (y : Nat) (z : St3) : Nat := Lib.trailingZeros8 (r z.2.2.toNat &&& comesN m' l' (2 ^ y) z.2.1)
def Clo (l : List St3) (h : Nat → Nat) : Prop := ∀ (x y : Nat) (z : St3), z ∈ l → z.1 = (x : Int) → mem2 h x y → mem2 h z.2.2.toNat (nx m' l' r y z)
structure Least (l : List St3) (g : Nat → Nat) : Prop where
  clo : Clo m' l' r l g
  fst : mem2 g 0 0
  min : ∀ h, Clo m' l' r l h → mem2 h 0 0 → subF g h
end
section
variable {m m' : Nat} {l l' : List St3}
theorem keep_ne {f : Nat → Nat} {x y : Nat} (h : keepN l m' l' f x y = true) {z : St3} (hz : z ∈ l) (hx : z.1 = (x : Int)) : f z.2.2.toNat &&& comesN m' l' (2 ^ y) z.2.1 ≠ 0 := by
  unfold keepN at h
  rw [Bool.not_eq_true', Bool.eq_false_iff] at h
  intro h0
  refine h (List.any_eq_true.2 ⟨z, hz, ?_⟩)
  unfold badK
  rw [decide_eq_true hx, Nat.and_comm, decide_eq_true h0]; rfl
theorem keep_iff {f : Nat → Nat} {x y : Nat} : keepN l m' l' f x y = true ↔ ∀ z ∈ l, z.1 = (x : Int) → f z.2.2.toNat &&& comesN m' l' (2 ^ y) z.2.1 ≠ 0 := by
  refine ⟨fun h z hz hx => keep_ne h hz hx, fun h => ?_⟩
  unfold keepN
  rw [Bool.not_eq_true', Bool.eq_false_iff]
  intro ha
  obtain ⟨z, hz, hb⟩ := List.any_eq_true.1 ha
  unfold badK at hb
  simp only [Bool.and_eq_true, decide_eq_true_eq] at hb
  refine h z hz hb.1 ?_
  rw [Nat.and_comm]; exact hb.2
theorem keep_mono {f g : Nat → Nat} {x y : Nat} (h : subF f g) (hk : keepN l m' l' f x y = true) : keepN l m' l' g x y = true := by
  rw [keep_iff] at hk ⊢
  intro z hz hx h0
  refine hk z hz hx ?_
  refine Nat.eq_of_testBit_eq fun b => ?_
  have hb : (g z.2.2.toNat &&& comesN (m' : Int) l' (2 ^ y) z.2.1).testBit b = false := by rw [h0]; exact Nat.zero_testBit b
  rw [Nat.testBit_and] at hb
  rw [Nat.testBit_and, Nat.zero_testBit]
  cases hf : (f z.2.2.toNat).testBit b with
  | false => rfl
  | true => rw [(h _).test hf] at hb; exact hb
theorem bestF_max (S : Sys m l) (S' : Sys m' l') {p : Nat → Nat} (hp : isPf (keepN l m' l') m p) (hall : subF p (allF m m')) : subF p (bestF m l m' l') :=
  itr_sub (K := keepN l m' l') (fun f g x y h hk => keep_mono h hk) hp _ (lt2 S'.le allF_inB) hall
end
end Go.Am

set_option maxRecDepth 100000
set_option linter.unusedVariables false
set_option linter.unusedSimpArgs false
set_option linter.unusedSectionVars false
namespace Go.Am
open Go
section
variable {m m' : Nat} {l l' : List St3}
end
end Go.Am

set_option maxRecDepth 100000
set_option linter.unusedVariables false
set_option linter.unusedSimpArgs false
set_option linter.unusedSectionVars false
namespace Go.Am
open Go
def Suc (l : List St3) (m' : Nat) (l' : List St3) (r s : Nat → Nat) (a b : Nat) : Prop := ∀ z : St3, z ∈ l → z.1 = (a : Int) → mem2 s z.2.2.toNat (nx m' l' r b z)
theorem Suc.mono {l : List St3} {m' : Nat} {l' : List St3} {r s t : Nat → Nat} {a b : Nat} (h : Suc l m' l' r s a b) (hs : subF s t) : Suc l m' l' r t a b := fun z hz hx => subF_mem hs (h z hz hx)
structure Ex (l : List St3) (m' : Nat) (l' : List St3) (r o s : Nat → Nat) : Prop where
  sub : subF o s
  clo : ∀ a b, mem2 s a b → mem2 o a b ∨ Suc l m' l' r s a b
  min : ∀ h, Clo m' l' r l h → subF o h → subF s h
  lt : ∀ i, s i < 2 ^ m'
structure Dfs (l : List St3) (m' : Nat) (l' : List St3) (r : Nat → Nat) (x y : Nat) (o s : Nat → Nat) : Prop where
  sub : subF o s
  has : mem2 s x y
  clo : ∀ a b, mem2 s a b → mem2 o a b ∨ Suc l m' l' r s a b
  min : ∀ h, Clo m' l' r l h → subF o h → mem2 h x y → subF s h
  lt : ∀ i, s i < 2 ^ m'
section
variable {m m' : Nat} {l l' : List St3}
end
end Go.Am

set_option maxRecDepth 100000
set_option linter.unusedVariables false
set_option linter.unusedSimpArgs false
set_option linter.unusedSectionVars false
namespace Go.Am
open Go
abbrev cSy : Cod (Int × List D) := cG (lc (cI .i64) (l1 (cL 3)))
def eSy (s : Int × List St3) : D := .agg [.int .i64 s.1, .list 3 (eSt s.2)]
def okSy (s : Int × List St3) : Bool := !decide ((100 : Int) < s.2.length) && vSys s.1 s.2
theorem R42_eq (ss : List (Int × List St3)) (hs : ss.length < Lg) (hl : ∀ s ∈ ss, s.2.length < Lg) : R42 Ar.std (ss.map eSy) = some (ss.all okSy) := by
  have key := iter_any (step := R42L0 Ar.std (ss.map eSy)) ss (fun s => !okSy s) (.inr ()) (.inl ()) (fun i s hi hlt => by
    have hget : gt Ar.std cSy (ss.map eSy) (i : Int) = some (s.1, eSt s.2) := by
      rw [gt_at hi]; rfl
    have hz : Ar.std.zlt (i : Int) (Ar.std.len (ss.map eSy)) = true := by rw [std_len, List.length_map]; exact ltN hlt
    unfold R42L0
    rw [hz, cond_true, hget, bsome]
    dsimp only
    rw [R16_eq, bsome, R34_eq s.1 s.2 (hl s (List.mem_of_getElem? hi)), bsome, inc hlt hs]
    unfold okSy
    cases decide ((100 : Int) < s.2.length) <;> cases vSys s.1 s.2 <;> rfl) (by
    unfold R42L0
    rw [std_len, List.length_map, geN, cond_false])
  unfold R42
  rw [key, bsome, any_notB]
  cases ss.all okSy <;> rfl
theorem stepN_has {l : List St3} (hl : SOk l) {s : Nat} {z : St3} (hz : z ∈ l) (hs : s.testBit z.1.toNat = true) : (stepN l s z.2.1).testBit z.2.2.toNat = true := by
  rw [stepN_test, List.any_eq_true]
  refine ⟨z, hz, ?_⟩
  unfold goes
  rw [decide_eq_true rfl, hs, decide_eq_true rfl]; rfl
theorem quiet_sub (m : Nat) (l : List St3) (s : Nat) : Wi s (quietN m l s) := by rw [quietN_nat]; exact hids_sub l m s
theorem comes_has {m : Nat} {l : List St3} (S : Sys m l) {s : Nat} {z : St3} (hz : z ∈ l) (hs : s.testBit z.1.toNat = true) : (comesN m l s z.2.1).testBit z.2.2.toNat = true := by
  unfold comesN
  by_cases h0 : z.2.1 = 0
  · rw [decide_eq_true h0, cond_true, quietN_nat]
    obtain ⟨k, hk⟩ : ∃ k, m = k + 1 := ⟨m - 1, by have := S.pos; omega⟩
    rw [hk]
    refine (hids_sub l k (hid l s)).test ?_
    unfold hid
    rw [Nat.testBit_or, ← h0, stepN_has S.ok hz hs, Bool.or_true]
  · rw [decide_eq_false h0, cond_false]
    exact (quiet_sub m l _).test (stepN_has S.ok hz ((quiet_sub m l s).test hs))
theorem and_ne {a b z : Nat} (ha : a.testBit z = true) (hb : b.testBit z = true) : a &&& b ≠ 0 := by
  intro h
  have : (a &&& b).testBit z = true := by rw [Nat.testBit_and, ha, hb]; rfl
  rw [h] at this; simp at this
end Go.Am

set_option maxRecDepth 100000
set_option linter.unusedVariables false
set_option linter.unusedSimpArgs false
set_option linter.unusedSectionVars false
namespace Go.Am
open Go
theorem and2 {x y : Bool} (h : (x && y) = true) : x = true ∧ y = true := by cases x <;> cases y <;> first | exact ⟨rfl, rfl⟩ | cases h
theorem okSy_v {s : Int × List St3} (h : okSy s = true) : vSys s.1 s.2 = true := (and2 h).2
end Go.Am

set_option maxRecDepth 100000
set_option linter.unusedVariables false
set_option linter.unusedSimpArgs false
set_option linter.unusedSectionVars false
namespace Go.Am
open Go
theorem quiet_quiet {m : Nat} {l : List St3} (S : Sys m l) {s : Nat} (hs : s < 2 ^ m) : quietN m l (quietN m l s) = quietN m l s := by
  rw [quietN_nat, quietN_nat]
  exact hids_of_fix (hids_fix S.sb hs) m
def Cov (g : Nat → Nat) (s t : Nat) : Prop := ∀ y, s.testBit y = true → ∃ w, t.testBit w = true ∧ mem2 g y w
theorem Cov.mono {g : Nat → Nat} {s t u : Nat} (h : Cov g s t) (hu : Wi t u) : Cov g s u := fun y hy => by
  obtain ⟨w, h1, h2⟩ := h y hy
  exact ⟨w, hu.test h1, h2⟩
theorem Cov.or {g : Nat → Nat} {a b t : Nat} (h : Cov g a t) (h' : Cov g b t) : Cov g (a ||| b) t := fun y hy => by
  rw [Nat.testBit_or, Bool.or_eq_true] at hy
  rcases hy with h1 | h1
  · exact h y h1
  · exact h' y h1
section
variable {m m' : Nat} {l l' : List St3} (S : Sys m l) (S' : Sys m' l') {g : Nat → Nat} (hg : ∀ x y, mem2 g x y → keepN l m' l' g x y = true)
include S S' hg
end
end Go.Am

set_option maxRecDepth 100000
set_option linter.unusedVariables false
set_option linter.unusedSimpArgs false
set_option linter.unusedSectionVars false
namespace Go.Am
open Go
theorem rfn_of {n n' : Int} {l l' : List St3} {m m' : Nat} (hn : n = m) (hn' : n' = m') (hv : vSys n l = true) (hv' : vSys n' l' = true) : rfn n l n' l' = ((bestF m l m' l' 0).testBit 0, 0) := by
  subst hn; subst hn'
  unfold rfn
  rw [hv, hv', Bool.and_self, cond_true, Int.toNat_natCast, Int.toNat_natCast]
theorem sub_all {m m' : Nat} {f : Nat → Nat} (h : ∀ i, m ≤ i → f i = 0) (hB : ∀ i, f i < 2 ^ m') : subF f (allF m m') := subF_of fun x y hxy => by
  have hx : x < m := by
    rcases Nat.lt_or_ge x m with h1 | h1
    · exact h1
    · unfold mem2 at hxy
      rw [h x h1] at hxy; simp at hxy
  have hy : y < m' := by
    rcases Nat.lt_or_ge y m' with h1 | h1
    · exact h1
    · unfold mem2 at hxy
      rw [Nat.testBit_lt_two_pow (Nat.lt_of_lt_of_le (hB x) (Nat.pow_le_pow_right (by decide) h1))] at hxy; cases hxy
  unfold mem2 allF
  rw [if_pos hx, Nat.testBit_two_pow_sub_one]; exact decide_eq_true hy
theorem ref_of {m m' : Nat} {l l' : List St3} (S : Sys m l) (S' : Sys m' l') {f : Nat → Nat} (h : ∀ i, m ≤ i → f i = 0) (hB : ∀ i, f i < 2 ^ m') (hp : ∀ x y, mem2 f x y → keepN l m' l' f x y = true) (h0 : mem2 f 0 0) : mem2 (bestF m l m' l') 0 0 :=
  subF_mem (bestF_max S S' (fun x _ y hy => hp x y (mem_bl.1 hy).2) (sub_all h hB)) h0
end Go.Am

set_option maxRecDepth 100000
set_option linter.unusedVariables false
set_option linter.unusedSimpArgs false
set_option linter.unusedSectionVars false
namespace Go.Am
open Go
section
variable {m m' : Nat} {l l' : List St3} (S : Sys m l) (S' : Sys m' l')
end
theorem plainD_iff {l : List St3} (h : plainD l = true) : (∀ z ∈ l, z.2.1 ≠ 0) ∧ ∀ y ∈ l, ∀ z ∈ l, y.1 = z.1 → y.2.1 = z.2.1 → y = z := by
  have hb : ∀ i, i < l.length → badP l i = false := fun i hi => by
    unfold plainD at h
    rw [Bool.not_eq_true', Bool.eq_false_iff] at h
    rw [Bool.eq_false_iff]
    exact fun hb => h (List.any_eq_true.2 ⟨i, List.mem_range.2 hi, hb⟩)
  have key : ∀ i j, (hij : i < j) → (hj : j < l.length) → ¬ (l[j].1 = (l[i]'(by omega)).1 ∧ l[j].2.1 = (l[i]'(by omega)).2.1) := fun i j hij hj hh => by
    have := hb j hj
    rw [badP_get (List.getElem?_eq_getElem hj), Bool.or_eq_false_iff] at this
    have h2 := this.2
    rw [Bool.eq_false_iff] at h2
    refine h2 (List.any_eq_true.2 ⟨l[i]'(by omega), List.mem_take_iff_getElem.2 ⟨i, by omega, rfl⟩, ?_⟩)
    rw [decide_eq_true hh.1, decide_eq_true hh.2]; rfl
  constructor
  · intro z hz
    obtain ⟨i, hi, rfl⟩ := List.getElem_of_mem hz
    have := hb i hi
    rw [badP_get (List.getElem?_eq_getElem hi), Bool.or_eq_false_iff] at this
    exact of_decide_eq_false this.1
  · intro y hy z hz h1 h2
    obtain ⟨i, hi, rfl⟩ := List.getElem_of_mem hy
    obtain ⟨j, hj, rfl⟩ := List.getElem_of_mem hz
    rcases Nat.lt_trichotomy i j with h3 | h3 | h3
    · exact absurd ⟨h1.symm, h2.symm⟩ (key i j h3 hj)
    · subst h3; rfl
    · exact absurd ⟨h1, h2⟩ (key j i h3 hi)
def Single (s : Nat) : Prop := ∀ j k, s.testBit j = true → s.testBit k = true → j = k
section
variable {m : Nat} {l : List St3} (S : Sys m l) (hp : plainD l = true)
include hp
theorem plain_hid (s : Nat) : hid l s = s := by
  unfold hid
  have : stepN l s 0 = 0 := by
    refine Nat.eq_of_testBit_eq fun j => ?_
    rw [stepN_test, Nat.zero_testBit, Bool.eq_false_iff]
    intro h
    obtain ⟨z, hz, h⟩ := List.any_eq_true.1 h
    simp only [goes, Bool.and_eq_true, decide_eq_true_eq] at h
    exact (plainD_iff hp).1 z hz h.1.1
  rw [this, Nat.or_zero]
theorem plain_quiet (s : Nat) : quietN m l s = s := by rw [quietN_nat]; exact hids_of_fix (plain_hid hp s) m
include S in
theorem plain_step {s : Nat} (hs : Single s) (lab : Int) : Single (stepN l s lab) := fun j k hj hk => by
  rw [stepN_test, List.any_eq_true] at hj hk
  obtain ⟨y, hy, h1⟩ := hj
  obtain ⟨z, hz, h2⟩ := hk
  simp only [goes, Bool.and_eq_true, decide_eq_true_eq] at h1 h2
  have h3 := hs _ _ h1.1.2 h2.1.2
  have o1 := S.ok.2 y hy
  have o2 := S.ok.2 z hz
  have : y = z := (plainD_iff hp).2 y hy z hz (by omega) (by rw [h1.1.1, h2.1.1])
  rw [← h1.2, ← h2.2, this]
include S in
theorem plain_comes {s : Nat} (hs : Single s) (lab : Int) : Single (comesN m l s lab) := by
  unfold comesN
  by_cases h0 : lab = 0
  · rw [decide_eq_true h0, cond_true, plain_quiet hp]; exact hs
  · rw [decide_eq_false h0, cond_false, plain_quiet hp, plain_quiet hp]; exact plain_step S hp hs lab
include S in
theorem plain_behind (w : List Int) : Single (behindN m l w) := by
  induction w using snoc_indR with
  | h0 =>
    show Single (quietN m l 1)
    rw [plain_quiet hp]
    intro j k hj hk
    have a : ∀ j, (1 : Nat).testBit j = true → j = 0 := fun j hj => by
      have h1 := Nat.testBit_two_pow (n := 0) (m := j)
      rw [show (2 : Nat) ^ 0 = 1 from rfl, hj] at h1
      exact (of_decide_eq_true h1.symm).symm
    rw [a j hj, a k hk]
  | h1 w a ih => rw [behindN_snoc]; exact plain_comes S hp ih a
end
open Classical in
noncomputable def toSet (n : Nat) (P : Nat → Prop) : Nat := orAll (fun y => if P y then 2 ^ y else 0) (List.range n)
theorem toSet_test (n : Nat) (P : Nat → Prop) (y : Nat) : (toSet n P).testBit y = true ↔ y < n ∧ P y := by
  unfold toSet
  rw [orAll_test, List.any_eq_true]
  constructor
  · rintro ⟨z, hz, h⟩
    split at h
    · rename_i hP
      rw [Nat.testBit_two_pow] at h
      have := of_decide_eq_true h
      subst this
      exact ⟨List.mem_range.1 hz, hP⟩
    · simp at h
  · rintro ⟨h1, h2⟩
    refine ⟨y, List.mem_range.2 h1, ?_⟩
    rw [if_pos h2, Nat.testBit_two_pow]; exact decide_eq_true rfl
theorem toSet_lt (n : Nat) (P : Nat → Prop) : toSet n P < 2 ^ n := by
  unfold toSet
  refine orAll_lt fun y hy => ?_
  split
  · exact Nat.pow_lt_pow_right (by decide) (List.mem_range.1 hy)
  · exact Nat.two_pow_pos n
theorem plain_refines {m m' : Nat} {l l' : List St3} (S : Sys m l) (S' : Sys m' l') (hp : plainD l' = true) (h : ∀ w, ¬ Sep (comesN m l) (comesN m' l') (q0 m l m' l') w) : mem2 (bestF m l m' l') 0 0 := by
  have hm := S.le
  have hm' := S'.le
  let p : Nat → Nat := fun x => toSet m' fun y => ∃ w, Lab w ∧ (behindN m l w).testBit x = true ∧ (behindN m' l' w).testBit y = true
  have hmem : ∀ x y, mem2 p x y ↔ y < m' ∧ ∃ w, Lab w ∧ (behindN m l w).testBit x = true ∧ (behindN m' l' w).testBit y = true := fun x y => toSet_test m' _ y
  refine ref_of S S' (f := p) (fun i hi => ?_) (fun i => toSet_lt m' _) (fun x y hxy => ?_) ((hmem 0 0).2 ⟨by have := S'.pos; omega, [], (fun a ha => by cases ha), (quiet_sub m l 1).test (j := 0) (by decide), (quiet_sub m' l' 1).test (j := 0) (by decide)⟩)
  · refine Nat.eq_of_testBit_eq fun y => ?_
    rw [Nat.zero_testBit, Bool.eq_false_iff]
    intro hy
    obtain ⟨_, w, _, hx, _⟩ := (hmem i y).1 hy
    rw [Nat.testBit_lt_two_pow (Nat.lt_of_lt_of_le (behindN_ltB S w) (Nat.pow_le_pow_right (by decide) hi))] at hx; cases hx
  · obtain ⟨hy, w, hw, hx1, hy1⟩ := (hmem x y).1 hxy
    rw [keep_iff]
    intro z hz hz1
    have hok := S.ok.2 z hz
    have hzx : (behindN m l w).testBit z.1.toNat = true := by rw [hz1, Int.toNat_natCast]; exact hx1
    have hto := comes_has S hz hzx
    by_cases h0 : z.2.1 = 0
    · 
      rw [h0] at hto ⊢
      have hq : comesN m l (behindN m l w) 0 = behindN m l w := by
        have e0 : comesN (m : Int) l (behindN m l w) 0 = quietN m l (behindN m l w) := rfl
        rw [e0]
        rcases List.eq_nil_or_concat w with rfl | ⟨u, a, rfl⟩
        · exact quiet_quiet S (Nat.one_lt_two_pow (by have := S.pos; omega))
        · rw [List.concat_eq_append, behindN_snoc]
          unfold comesN
          cases decide (a = 0) with
          | true => exact quiet_quiet S (behindN_ltB S u)
          | false => exact quiet_quiet S (stepN_ltB S.sb _ _)
      rw [hq] at hto
      have hyy : (comesN m' l' (2 ^ y) 0).testBit y = true := (quiet_sub m' l' (2 ^ y)).test (by rw [Nat.testBit_two_pow]; exact decide_eq_true rfl)
      exact and_ne ((hmem _ _).2 ⟨hy, w, hw, hto, hy1⟩) hyy
    · have hlab : Lab (w ++ [z.2.1]) := Lab.snoc.2 ⟨hw, by omega, by omega⟩
      have hne : behindN m l (w ++ [z.2.1]) ≠ 0 := by
        intro h1
        rw [behindN_snoc] at h1
        rw [h1] at hto; simp at hto
      have hne' : behindN m' l' (w ++ [z.2.1]) ≠ 0 := fun h1 => h _ ⟨hlab, hne, h1⟩
      obtain ⟨y', hy'⟩ := Nat.exists_testBit_of_ne_zero hne'
      have hs : behindN m' l' w = 2 ^ y := by
        refine Nat.eq_of_testBit_eq fun k => ?_
        rw [Nat.testBit_two_pow]
        by_cases hk : y = k
        · subst hk; rw [hy1]; exact (decide_eq_true rfl).symm
        · rw [decide_eq_false hk, Bool.eq_false_iff]
          exact fun h2 => hk (plain_behind S' hp w y k hy1 h2)
      have hy2 : y' < m' := by
        rcases Nat.lt_or_ge y' m' with h1 | h1
        · exact h1
        · rw [Nat.testBit_lt_two_pow (Nat.lt_of_lt_of_le (behindN_ltB S' _) (Nat.pow_le_pow_right (by decide) h1))] at hy'; cases hy'
      have hy3 := hy'
      rw [behindN_snoc, hs] at hy3
      rw [← behindN_snoc] at hto
      exact and_ne ((hmem _ _).2 ⟨hy2, _, hlab, hto, hy'⟩) hy3
end Go.Am

set_option maxRecDepth 100000
set_option linter.unusedVariables false
set_option linter.unusedSimpArgs false
set_option linter.unusedSectionVars false
namespace Go.Am
open Go
theorem seen_lab {w : List Int} : seenL w = true ↔ Lab w := by
  unfold seenL Lab btw
  rw [List.all_eq_true]
  simp only [Bool.and_eq_true, decide_eq_true_eq]
theorem shw_spec {m m' : Nat} {l l' : List St3} (S : Sys m l) (S' : Sys m' l') (hv : vSys (m : Int) l = true) (hv' : vSys (m' : Int) l' = true) :
    (∃ t, shw m l m' l' = (t, 0) ∧ First (comesN m l) (comesN m' l') (q0 m l m' l') t) ∨ (shw m l m' l' = ([], 5) ∧ ∀ w, ¬ Sep (comesN m l) (comesN m' l') (q0 m l m' l') w) := by
  have hq := shw_min S S'
  unfold shw
  rw [hv, hv', cond_true, cond_true]
  generalize look (comesN m l) (comesN m' l') 9000 [(quietN m l 1, quietN m' l' 1, [])] [(quietN m l 1, quietN m' l' 1)] = o at hq
  cases o with
  | none => exact .inr ⟨rfl, hq⟩
  | some t => exact .inl ⟨t, rfl, hq⟩
theorem isTr_lab {n : Int} {l : List St3} (hv : vSys n l = true) {w : List Int} (hw : Lab w) (hl : w.length ≤ 1000) : isTr n l w = (!decide (behindN n l w = 0), 0) := by
  unfold isTr
  rw [hv, cond_true, seen_lab.2 hw, decide_eq_false (by omega)]; rfl
theorem isTr_bad {n : Int} {l : List St3} (hv : vSys n l = true) {w : List Int} (hw : (decide ((1000 : Int) < w.length) || !seenL w) = true) : isTr n l w = (false, 2) := by
  unfold isTr
  rw [hv, cond_true, hw]; rfl
theorem plain_eq {n : Int} {l : List St3} (hl : l.length < Lg) (hv : vSys n l = true) : R25 Ar.std n (eSt l) = some (plainD l, 0) := by
  rw [R25_eq n l hl, hv, cond_true, plain_same hv]
end Go.Am

set_option maxRecDepth 100000
set_option linter.unusedVariables false
set_option linter.unusedSimpArgs false
set_option linter.unusedSectionVars false
namespace Go.Am
open Go
theorem any_idx {n : Nat} {p : Nat → Bool} (h : ∀ i, i < n → p i = false) : (List.range n).any p = false := by
  rw [Bool.eq_false_iff]
  intro h2
  obtain ⟨i, hi, hb⟩ := List.any_eq_true.1 h2
  rw [h i (List.mem_range.1 hi)] at hb; cases hb
theorem goodSys_of {m : Int} {l : List St3} (h : ∀ x ∈ l, stOk m x = true) (hn : l.Nodup) : goodSys m l = true := by
  unfold goodSys
  rw [any_idx fun i hi => ?_]; rfl
  rw [badSt_get (List.getElem?_eq_getElem hi), h _ (List.getElem_mem hi), Bool.not_true, Bool.false_or, Bool.eq_false_iff]
  intro hc
  rw [List.contains_iff_mem] at hc
  obtain ⟨j, hj, e⟩ := List.getElem_of_mem hc
  rw [List.length_take] at hj
  rw [List.getElem_take] at e
  have := List.pairwise_iff_getElem.1 hn j i (by omega) hi (by omega)
  exact this e
theorem plainD_of {l : List St3} (h0 : ∀ z ∈ l, z.2.1 ≠ 0) (hp : l.Pairwise fun y z => ¬ (y.1 = z.1 ∧ y.2.1 = z.2.1)) : plainD l = true := by
  unfold plainD
  rw [any_idx fun i hi => ?_]; rfl
  rw [badP_get (List.getElem?_eq_getElem hi), decide_eq_false (h0 _ (List.getElem_mem hi)), Bool.false_or, Bool.eq_false_iff]
  intro hc
  obtain ⟨y, hy, hb⟩ := List.any_eq_true.1 hc
  obtain ⟨j, hj, rfl⟩ := List.getElem_of_mem hy
  rw [List.length_take] at hj
  rw [List.getElem_take] at hb
  simp only [Bool.and_eq_true, decide_eq_true_eq] at hb
  have := List.pairwise_iff_getElem.1 hp j i (by omega) hi (by omega)
  exact this ⟨hb.1.symm, hb.2.symm⟩
def Dn (i a : Nat) (i' : Nat) (lab : Int) : Prop := i' < i ∨ (i' = i ∧ lab ≤ a)
structure SI (F : Nat → Int → Nat) (i a : Nat) (s : SeeS) : Prop where
  nd : s.1.Nodup
  ne : ∀ x ∈ s.1, x ≠ 0
  st : ∀ z ∈ s.2, ∃ (i' j : Nat) (lab : Int), z = ((i' : Int), lab, (j : Int)) ∧ i' < s.1.length ∧ j < s.1.length ∧ (1 ≤ lab ∧ lab ≤ 3) ∧ s.1[j]? = some (F (s.1.getD i' 0) lab) ∧ Dn i a i' lab
  cmp : ∀ (i' : Nat) (lab : Int), Dn i a i' lab → i' < s.1.length → 1 ≤ lab → lab ≤ 3 → F (s.1.getD i' 0) lab ≠ 0 → ∃ j : Nat, j < s.1.length ∧ ((i' : Int), lab, (j : Int)) ∈ s.2
  un : s.2.Pairwise fun y z => ¬ (y.1 = z.1 ∧ y.2.1 = z.2.1)
theorem getD_app {l : List Nat} {i : Nat} (h : i < l.length) (m : List Nat) : (l ++ m).getD i 0 = l.getD i 0 := by
  rw [List.getD_eq_getElem?_getD, List.getD_eq_getElem?_getD, List.getElem?_append_left h]
theorem SI.step {n : Int} {l : List St3} {i a : Nat} {s : SeeS} (h : SI (comesN n l) i a s) (hi : i < s.1.length) (ha : a < 3) : SI (comesN n l) i (a + 1) (seeL n l i s ((a + 1 : Nat) : Int)) := by
  have hD : ∀ i' (lab : Int), Dn i (a + 1) i' lab ↔ Dn i a i' lab ∨ (i' = i ∧ lab = ((a + 1 : Nat) : Int)) := fun i' lab => by unfold Dn; omega
  
  have grow : ∀ (m : List Nat) (j : Nat), (s.1 ++ m).Nodup → (∀ x ∈ m, x ≠ 0) → j < (s.1 ++ m).length → (s.1 ++ m)[j]? = some (comesN n l (s.1.getD i 0) ((a + 1 : Nat) : Int)) →
      SI (comesN n l) i (a + 1) (s.1 ++ m, s.2 ++ [((i : Int), ((a + 1 : Nat) : Int), (j : Int))]) := fun m j hnd hne hj hx => by
    have hlen : (s.1 ++ m).length = s.1.length + m.length := List.length_append
    refine ⟨hnd, fun x hx => ?_, fun z hz => ?_, fun i' lab hd hi' h1 h2 h3 => ?_, ?_⟩
    · rcases List.mem_append.1 hx with hx | hx
      · exact h.ne x hx
      · exact hne x hx
    · rcases List.mem_append.1 hz with hz | hz
      · obtain ⟨i', j', lab, rfl, b1, b2, b3, b4, b5⟩ := h.st z hz
        refine ⟨i', j', lab, rfl, ?_, ?_, b3, ?_, (hD _ _).2 (.inl b5)⟩
        · show i' < (s.1 ++ m).length; omega
        · show j' < (s.1 ++ m).length; omega
        · show (s.1 ++ m)[j']? = some (comesN n l ((s.1 ++ m).getD i' 0) lab)
          rw [getD_app b1, List.getElem?_append_left b2]; exact b4
      · rw [List.mem_singleton] at hz; subst hz
        refine ⟨i, j, _, rfl, ?_, hj, by omega, ?_, (hD _ _).2 (.inr ⟨rfl, rfl⟩)⟩
        · show i < (s.1 ++ m).length; omega
        · show (s.1 ++ m)[j]? = some (comesN n l ((s.1 ++ m).getD i 0) _)
          rw [getD_app hi]; exact hx
    · rcases (hD _ _).1 hd with hd | ⟨rfl, rfl⟩
      · have hi2 : i' < s.1.length := by
          rcases hd with hd | hd
          · omega
          · omega
        have h3' : comesN n l (s.1.getD i' 0) lab ≠ 0 := by rw [← getD_app hi2 m]; exact h3
        obtain ⟨j', c1, c2⟩ := h.cmp i' lab hd hi2 h1 h2 h3'
        exact ⟨j', by show j' < (s.1 ++ m).length; omega, List.mem_append.2 (.inl c2)⟩
      · exact ⟨j, hj, List.mem_append.2 (.inr (List.mem_singleton.2 rfl))⟩
    · refine List.pairwise_append.2 ⟨h.un, List.pairwise_singleton _ _, fun y hy z hz => ?_⟩
      rw [List.mem_singleton] at hz; subst hz
      obtain ⟨i', j', lab, rfl, _, _, _, _, b5⟩ := h.st y hy
      rintro ⟨e1, e2⟩
      simp only at e1 e2
      rcases b5 with b5 | b5
      · omega
      · omega
  unfold seeL
  cases h1 : decide (comesN n l (s.1.getD i 0) ((a + 1 : Nat) : Int) = 0) with
  | true =>
    rw [cond_true]
    refine ⟨h.nd, h.ne, fun z hz => ?_, fun i' lab hd hi' c1 c2 c3 => ?_, h.un⟩
    · obtain ⟨i', j', lab, e, b1, b2, b3, b4, b5⟩ := h.st z hz
      exact ⟨i', j', lab, e, b1, b2, b3, b4, (hD _ _).2 (.inl b5)⟩
    · rcases (hD _ _).1 hd with hd | ⟨rfl, rfl⟩
      · exact h.cmp i' lab hd hi' c1 c2 c3
      · exact absurd (of_decide_eq_true h1) c3
  | false =>
    rw [cond_false]
    have hx0 := of_decide_eq_false h1
    cases hf : s.1.findIdx? (fun y => decide (comesN n l (s.1.getD i 0) ((a + 1 : Nat) : Int) = y)) with
    | some k =>
      obtain ⟨hk, hp, _⟩ := List.findIdx?_eq_some_iff_getElem.1 hf
      have hk2 : s.1[k]? = some (comesN n l (s.1.getD i 0) ((a + 1 : Nat) : Int)) := by rw [List.getElem?_eq_getElem hk, of_decide_eq_true hp]
      have := grow [] k (by rw [List.append_nil]; exact h.nd) (fun x hx => by cases hx) (by rw [List.append_nil]; exact hk) (by rw [List.append_nil]; exact hk2)
      rw [List.append_nil] at this
      exact this
    | none =>
      rw [List.findIdx?_eq_none_iff] at hf
      have hn : comesN n l (s.1.getD i 0) ((a + 1 : Nat) : Int) ∉ s.1 := fun hm => by have := hf _ hm; simp at this
      refine grow [comesN n l (s.1.getD i 0) ((a + 1 : Nat) : Int)] s.1.length ?_ (fun x hx => by rw [List.mem_singleton] at hx; subst hx; exact hx0) (by simp) (by simp)
      refine List.nodup_append.2 ⟨h.nd, by simp, fun x hx y hy => ?_⟩
      rw [List.mem_singleton] at hy; subst hy
      rintro rfl; exact hn hx
theorem seeL_pre (n : Int) (l : List St3) (i : Nat) (s : SeeS) (lab : Int) : s.1 <+: (seeL n l i s lab).1 := by
  unfold seeL
  cases decide (comesN n l (s.1.getD i 0) lab = 0) with
  | true => exact List.prefix_refl _
  | false =>
    rw [cond_false]
    cases s.1.findIdx? (fun y => decide (comesN n l (s.1.getD i 0) lab = y)) with
    | none => exact List.prefix_append _ _
    | some k => exact List.prefix_refl _
theorem seeR_is (n : Int) (l : List St3) (i : Nat) (s : SeeS) : seeR n l i s = seeL n l i (seeL n l i (seeL n l i s 1) 2) 3 := rfl
theorem seeR_pre (n : Int) (l : List St3) (i : Nat) (s : SeeS) : s.1 <+: (seeR n l i s).1 := by
  rw [seeR_is]
  exact (seeL_pre n l i s 1).trans ((seeL_pre n l i _ 2).trans (seeL_pre n l i _ 3))
theorem runR_pre (n : Int) (l : List St3) : ∀ (k i : Nat) (s : SeeS), s.1 <+: (runR n l k i s).1
  | 0, i, s => List.prefix_refl _
  | k + 1, i, s => by
    unfold runR
    cases decide (i < s.1.length) with
    | true => exact (seeR_pre n l i s).trans (runR_pre n l k (i + 1) _)
    | false => exact List.prefix_refl _
theorem SI.round {n : Int} {l : List St3} {i : Nat} {s : SeeS} (h : SI (comesN n l) i 0 s) (hi : i < s.1.length) : SI (comesN n l) (i + 1) 0 (seeR n l i s) := by
  have h1 := h.step hi (by decide)
  have i1 : i < (seeL n l i s 1).1.length := Nat.lt_of_lt_of_le hi (seeL_pre n l i s 1).length_le
  have h2 := h1.step i1 (by decide)
  have i2 : i < (seeL n l i (seeL n l i s 1) 2).1.length := Nat.lt_of_lt_of_le i1 (seeL_pre n l i _ 2).length_le
  have h3 := h2.step i2 (by decide)
  have e : seeR n l i s = seeL n l i (seeL n l i (seeL n l i s ((0 + 1 : Nat) : Int)) ((0 + 1 + 1 : Nat) : Int)) ((0 + 1 + 1 + 1 : Nat) : Int) := rfl
  rw [e]
  have hD : ∀ i' (lab : Int), 1 ≤ lab → lab ≤ 3 → (Dn (i + 1) 0 i' lab ↔ Dn i 3 i' lab) := fun i' lab a b => by unfold Dn; omega
  refine ⟨h3.nd, h3.ne, fun z hz => ?_, fun i' lab hd hi' c1 c2 c3 => h3.cmp i' lab ((hD _ _ c1 c2).1 hd) hi' c1 c2 c3, h3.un⟩
  obtain ⟨i', j', lab, e, b1, b2, b3, b4, b5⟩ := h3.st z hz
  exact ⟨i', j', lab, e, b1, b2, b3, b4, (hD _ _ b3.1 b3.2).2 b5⟩
theorem runR_SI {m : Nat} {l : List St3} (S : Sys m l) : ∀ (k i : Nat) (s : SeeS), i + k = 70 → i ≤ s.1.length → SeeI m i s (3 * i) → SI (comesN m l) i 0 s →
    ∃ j, (runR m l k i s).1.length = j ∧ SeeI m j (runR m l k i s) (3 * j) ∧ SI (comesN m l) j 0 (runR m l k i s)
  | 0, i, s, hk, hi, hI, hS => by have := hI.len; omega
  | k + 1, i, s, hk, hi, hI, hS => by
    unfold runR
    by_cases hlt : i < s.1.length
    · have hR := seeR_ok S hI hlt
      have hN : SeeI m (i + 1) (seeR m l i s) (3 * (i + 1)) := by have := hR.1.next; rw [Nat.mul_add]; exact this
      rw [decide_eq_true hlt, cond_true]
      exact runR_SI S k (i + 1) _ (by omega) (by have := hR.2; omega) hN (hS.round hlt)
    · rw [decide_eq_false hlt, cond_false]
      exact ⟨i, by omega, hI, hS⟩
structure FinS (m : Nat) (l : List St3) (k : Nat) (L : List Nat) (st : List St3) : Prop where
  len : L.length = k
  pos : 1 ≤ k
  hd : L[0]? = some (quietN m l 1)
  nd : L.Nodup
  ne : ∀ x ∈ L, x ≠ 0
  lt : ∀ x ∈ L, x < 2 ^ m
  sp : ∀ z ∈ st, ∃ (i j : Nat) (lab : Int), z = ((i : Int), lab, (j : Int)) ∧ i < k ∧ j < k ∧ (1 ≤ lab ∧ lab ≤ 3) ∧ L[j]? = some (comesN m l (L.getD i 0) lab)
  cmp : ∀ (i : Nat) (lab : Int), i < k → 1 ≤ lab → lab ≤ 3 → comesN m l (L.getD i 0) lab ≠ 0 → ∃ j : Nat, j < k ∧ ((i : Int), lab, (j : Int)) ∈ st
  un : st.Pairwise fun y z => ¬ (y.1 = z.1 ∧ y.2.1 = z.2.1)
  cnt : st.length ≤ 3 * k
theorem run_fin {m : Nat} {l : List St3} (S : Sys m l) : FinS m l (sRun m l).1.length (sRun m l).1 (sRun m l).2 := by
  have h0 : SI (comesN m l) 0 0 ([quietN m l 1], []) := ⟨List.pairwise_singleton _ _, fun x hx => by rw [List.mem_singleton] at hx; subst hx; exact quiet_pos m l, fun z hz => (by cases hz), fun i' lab hd hi' h1 h2 h3 => by unfold Dn at hd; omega, List.Pairwise.nil⟩
  obtain ⟨j, e, h1, h2⟩ := runR_SI S 70 0 ([quietN m l 1], []) rfl (Nat.zero_le _) (start S) h0
  have hpre := runR_pre m l 70 0 ([quietN m l 1], [])
  obtain ⟨r, hr⟩ := hpre
  have hd : (sRun m l).1[0]? = some (quietN m l 1) := by
    show (runR m l 70 0 ([quietN m l 1], [])).1[0]? = _
    rw [← hr]; rfl
  have hpos : 1 ≤ (sRun m l).1.length := by
    show 1 ≤ (runR m l 70 0 ([quietN m l 1], [])).1.length
    rw [← hr]; simp
  have ej : (sRun m l).1.length = j := e
  refine ⟨rfl, hpos, hd, h2.nd, h2.ne, h1.lt, fun z hz => ?_, fun i lab hi c1 c2 c3 => h2.cmp i lab (.inl (by omega)) hi c1 c2 c3, h2.un, by rw [ej]; exact h1.stp⟩
  obtain ⟨i', j', lab, e, b1, b2, b3, b4, _⟩ := h2.st z hz
  exact ⟨i', j', lab, e, b1, b2, b3, b4⟩
section
variable {m : Nat} {l : List St3} {k : Nat} {L : List Nat} {st : List St3} (S : Sys m l) (h : FinS m l k L st) (hk : k ≤ 6)
include h hk
theorem fin_valid : vSys (k : Int) st = true := by
  have hg : goodSys ((k : Int) - 1) st = true := goodSys_of (fun z hz => by
    obtain ⟨i, j, lab, rfl, h1, h2, h3, _⟩ := h.sp z hz
    unfold stOk btw
    dsimp only
    rw [decide_eq_true (by omega), decide_eq_true (by omega), decide_eq_true (by omega), decide_eq_true (by omega), decide_eq_true (by omega), decide_eq_true (by omega)]; rfl) (h.un.imp fun {a b} hab e => hab (by rw [e]; exact ⟨rfl, rfl⟩))
  have := h.cnt
  have := h.pos
  unfold vSys btw
  rw [hg, decide_eq_true (by omega), decide_eq_true (by omega), decide_eq_true (by omega)]; rfl
omit hk in
theorem fin_plain : plainD st = true := plainD_of (fun z hz => by
  obtain ⟨i, j, lab, rfl, _, _, h3, _⟩ := h.sp z hz
  simp only; omega) h.un
theorem fin_sys : Sys k st := by
  obtain ⟨m2, e, S2⟩ := Sys.of (fin_valid h hk)
  have : k = m2 := by omega
  subst this; exact S2
theorem fin_one {i j j' : Nat} {lab : Int} (h1 : ((i : Int), lab, (j : Int)) ∈ st) (h2 : ((i : Int), lab, (j' : Int)) ∈ st) : j = j' := by
  have := (plainD_iff (fin_plain h)).2 _ h1 _ h2 rfl rfl
  have := congrArg (fun z : St3 => z.2.2) this
  simp only at this; omega
theorem fin_comes {i : Nat} (hi : i < k) {lab : Int} (h1 : 1 ≤ lab) (h3 : lab ≤ 3) :
    (comesN m l (L.getD i 0) lab = 0 ∧ comesN k st (2 ^ i) lab = 0) ∨ ∃ j, j < k ∧ L[j]? = some (comesN m l (L.getD i 0) lab) ∧ comesN k st (2 ^ i) lab = 2 ^ j := by
  have S2 := fin_sys h hk
  have hp := fin_plain h
  have e : comesN k st (2 ^ i) lab = stepN st (2 ^ i) lab := by
    unfold comesN
    rw [decide_eq_false (by omega), cond_false, plain_quiet hp, plain_quiet hp]
  have hbit : ∀ j, (stepN st (2 ^ i) lab).testBit j = true ↔ ((i : Int), lab, (j : Int)) ∈ st := fun j => by
    rw [stepN_test, List.any_eq_true]
    constructor
    · rintro ⟨z, hz, hb⟩
      simp only [goes, Bool.and_eq_true, decide_eq_true_eq, Nat.testBit_two_pow] at hb
      obtain ⟨a, b, lab', rfl, _, _, _, _⟩ := h.sp z hz
      simp only [Int.toNat_natCast] at hb
      obtain ⟨⟨e1, e2⟩, e3⟩ := hb
      subst e1; subst e2; subst e3
      exact hz
    · intro hz
      refine ⟨_, hz, ?_⟩
      simp only [goes, Int.toNat_natCast, Nat.testBit_two_pow, decide_true, Bool.and_self]
  rw [e]
  by_cases h0 : comesN m l (L.getD i 0) lab = 0
  · refine .inl ⟨h0, ?_⟩
    refine Nat.eq_of_testBit_eq fun j => ?_
    rw [Nat.zero_testBit, Bool.eq_false_iff]
    intro hb
    obtain ⟨a, b, lab', e', _, _, _, b4⟩ := h.sp _ ((hbit j).1 hb)
    have e1 : i = a := by have := congrArg (fun z : St3 => z.1) e'; simp only at this; omega
    have e2 : lab = lab' := congrArg (fun z : St3 => z.2.1) e'
    subst e1; subst e2
    rw [h0] at b4
    exact h.ne 0 (List.mem_of_getElem? b4) rfl
  · obtain ⟨j, hj, hmem⟩ := h.cmp i lab hi h1 h3 h0
    obtain ⟨a, b, lab', e', _, _, _, b4⟩ := h.sp _ hmem
    have e1 : i = a := by have := congrArg (fun z : St3 => z.1) e'; simp only at this; omega
    have e2 : lab = lab' := congrArg (fun z : St3 => z.2.1) e'
    have e3 : j = b := by have := congrArg (fun z : St3 => z.2.2) e'; simp only at this; omega
    subst e1; subst e2; subst e3
    refine .inr ⟨j, hj, b4, ?_⟩
    refine Nat.eq_of_testBit_eq fun j' => ?_
    rw [Nat.testBit_two_pow, Bool.eq_iff_iff, hbit, decide_eq_true_eq]
    exact ⟨fun h2 => fin_one h hk hmem h2, fun h2 => by subst h2; exact hmem⟩
theorem fin_behind : ∀ (w : List Int), Lab w → (behindN m l w = 0 ∧ behindN k st w = 0) ∨ ∃ j, j < k ∧ L[j]? = some (behindN m l w) ∧ behindN k st w = 2 ^ j := fun w => by
  have hlen := h.len
  induction w using snoc_indR with
  | h0 =>
    intro _
    refine .inr ⟨0, by have := h.pos; omega, h.hd, ?_⟩
    show quietN k st 1 = 2 ^ 0
    exact plain_quiet (fin_plain h) 1
  | h1 w a ih =>
    intro hl
    obtain ⟨hl1, hl2⟩ := Lab.snoc.1 hl
    rw [behindN_snoc, behindN_snoc]
    rcases ih hl1 with ⟨a1, a2⟩ | ⟨j, hj, b1, b2⟩
    · rw [a1, a2, comesN_zero, comesN_zero]; exact .inl ⟨rfl, rfl⟩
    · have e : L.getD j 0 = behindN m l w := by rw [List.getD_eq_getElem?_getD, b1]; rfl
      have := fin_comes h hk hj hl2.1 hl2.2
      rw [e] at this
      rw [b2]; exact this
theorem fin_same {w : List Int} (hw : Lab w) : behindN m l w = 0 ↔ behindN k st w = 0 := by
  rcases fin_behind h hk w hw with ⟨a1, a2⟩ | ⟨j, hj, b1, b2⟩
  · rw [a1, a2]
  · rw [b2]
    have h1 := h.ne _ (List.mem_of_getElem? b1)
    have h2 := Nat.two_pow_pos j
    constructor
    · intro h3; exact absurd h3 h1
    · intro h3; omega
end
end Go.Am

set_option maxRecDepth 100000
set_option linter.unusedVariables false
set_option linter.unusedSimpArgs false
set_option linter.unusedSectionVars false
namespace Go.Am
open Go
def pw (n : Nat) : List Nat := (List.range n).map fun i => 2 ^ i
theorem pw_len (n : Nat) : (pw n).length = n := by simp [pw]
theorem pw_get {n i : Nat} (h : i < n) : (pw n)[i]? = some (2 ^ i) := by simp [pw, h]
theorem pw_succ (n : Nat) : pw (n + 1) = pw n ++ [2 ^ n] := by simp [pw, List.range_succ]
theorem pow_inj {a b : Nat} (h : 2 ^ a = 2 ^ b) : a = b := (Nat.pow_right_inj (by decide : 1 < 2)).1 h
theorem nodup_inj {l : List Nat} (hn : l.Nodup) {a b : Nat} (ha : a < l.length) (e : l[a]? = l[b]?) : a = b := by
  have hb : b < l.length := by
    rcases Nat.lt_or_ge b l.length with h | h
    · exact h
    · rw [List.getElem?_eq_none h, List.getElem?_eq_getElem ha] at e; cases e
  rw [List.getElem?_eq_getElem ha, List.getElem?_eq_getElem hb, Option.some.injEq] at e
  rcases Nat.lt_trichotomy a b with h | h | h
  · exact absurd e (List.pairwise_iff_getElem.1 hn a b ha hb h)
  · exact h
  · exact absurd e.symm (List.pairwise_iff_getElem.1 hn b a hb ha h)
theorem pw_idx {n j : Nat} : (pw n).findIdx? (fun y => decide (2 ^ j = y)) = if j < n then some j else none := by
  by_cases h : j < n
  · rw [if_pos h, List.findIdx?_eq_some_iff_getElem]
    refine ⟨by rw [pw_len]; exact h, ?_, fun i hi => ?_⟩
    · have := pw_get h
      rw [List.getElem?_eq_getElem (by rw [pw_len]; exact h)] at this
      rw [Option.some.inj this]; exact decide_eq_true rfl
    · have := pw_get (n := n) (i := i) (by omega)
      rw [List.getElem?_eq_getElem (by rw [pw_len]; omega)] at this
      rw [Option.some.inj this]
      have hne : ¬ 2 ^ j = 2 ^ i := fun e => by have := pow_inj e; omega
      rw [decide_eq_false hne]; exact Bool.false_ne_true
  · rw [if_neg h, List.findIdx?_eq_none_iff]
    intro x hx
    obtain ⟨i, hi, rfl⟩ := List.mem_map.1 hx
    have := List.mem_range.1 hi
    exact decide_eq_false fun e => by have := pow_inj e; omega
def mapS (s : SeeS) : SeeS := (pw s.1.length, s.2)
section
variable {m : Nat} {l : List St3} {k : Nat} {L : List Nat} {st : List St3} (h : FinS m l k L st) (hk : k ≤ 6)
include h hk
theorem see_map {i : Nat} {s : SeeS} (hi : i < s.1.length) {lab : Int} (h1 : 1 ≤ lab) (h3 : lab ≤ 3) (hpre : (seeL m l i s lab).1 <+: L) : seeL k st i (mapS s) lab = mapS (seeL m l i s lab) := by
  have hL := h.len
  have hp0 := (seeL_pre m l i s lab).trans hpre
  have hik : i < k := by have := hp0.length_le; omega
  have hgd : s.1.getD i 0 = L.getD i 0 := by
    obtain ⟨r, rfl⟩ := hp0
    exact (getD_app hi r).symm
  have hgd' : (mapS s).1.getD i 0 = 2 ^ i := by
    show (pw s.1.length).getD i 0 = 2 ^ i
    rw [List.getD_eq_getElem?_getD, pw_get hi]; rfl
  have hc := fin_comes h hk hik h1 h3
  unfold seeL at hpre ⊢
  rw [hgd', hgd]
  rw [hgd] at hpre
  rcases hc with ⟨c1, c2⟩ | ⟨j, hj, c1, c2⟩
  · rw [c1, c2]; rfl
  · have hne := h.ne _ (List.mem_of_getElem? c1)
    have hp2 := Nat.two_pow_pos j
    rw [decide_eq_false hne, cond_false] at hpre ⊢
    rw [c2, decide_eq_false (by omega), cond_false]
    have hidx : (mapS s).1.findIdx? (fun y => decide (2 ^ j = y)) = if j < s.1.length then some j else none := pw_idx
    rw [hidx]
    have hinj : ∀ a b, a < L.length → L[a]? = L[b]? → a = b := fun a b ha e => nodup_inj h.nd ha e
    cases hf : s.1.findIdx? (fun y => decide (comesN m l (L.getD i 0) lab = y)) with
    | some p =>
      obtain ⟨hp, hb, _⟩ := List.findIdx?_eq_some_iff_getElem.1 hf
      have e1 : L[p]? = some (comesN m l (L.getD i 0) lab) := by
        obtain ⟨r, hr⟩ := hp0
        rw [← hr, List.getElem?_append_left hp, List.getElem?_eq_getElem hp, hr, of_decide_eq_true hb]
      have hpj : p = j := hinj p j (by have := hp0.length_le; omega) (by rw [e1, c1])
      subst hpj
      rw [if_pos hp]; rfl
    | none =>
      rw [hf, Option.elim_none] at hpre
      have e1 : L[s.1.length]? = some (comesN m l (L.getD i 0) lab) := by
        obtain ⟨r, hr⟩ := hpre
        have : L[s.1.length]? = ((s.1 ++ [comesN m l (L.getD i 0) lab]) ++ r)[s.1.length]? := by
          rw [show (s.1 ++ [comesN m l (L.getD i 0) lab]) ++ r = L from hr]
        rw [this, List.append_assoc, List.getElem?_append_right (Nat.le_refl _), Nat.sub_self]; rfl
      have hpj : s.1.length = j := hinj _ j (by
        have := hpre.length_le
        simp only [List.length_append, List.length_singleton] at this
        omega) (by rw [e1, c1])
      subst hpj
      rw [if_neg (Nat.lt_irrefl _), Option.elim_none, Option.elim_none]
      unfold mapS
      simp only [List.length_append, List.length_singleton, pw_succ, pw_len]
theorem round_map {i : Nat} {s : SeeS} (hi : i < s.1.length) (hpre : (seeR m l i s).1 <+: L) : seeR k st i (mapS s) = mapS (seeR m l i s) := by
  rw [seeR_is] at hpre ⊢
  rw [seeR_is]
  have p2 := (seeL_pre m l i (seeL m l i (seeL m l i s 1) 2) 3).trans hpre
  have p1 := (seeL_pre m l i (seeL m l i s 1) 2).trans p2
  have i1 := Nat.lt_of_lt_of_le hi (seeL_pre m l i s 1).length_le
  have i2 := Nat.lt_of_lt_of_le i1 (seeL_pre m l i (seeL m l i s 1) 2).length_le
  rw [see_map h hk hi (by decide) (by decide) p1, see_map h hk i1 (by decide) (by decide) p2, see_map h hk i2 (by decide) (by decide) hpre]
theorem run_map : ∀ (n i : Nat) (s : SeeS), (runR m l n i s).1 <+: L → runR k st n i (mapS s) = mapS (runR m l n i s)
  | 0, i, s, _ => rfl
  | n + 1, i, s, hpre => by
    unfold runR at hpre ⊢
    have e : (mapS s).1.length = s.1.length := pw_len _
    rw [e]
    by_cases hi : i < s.1.length
    · rw [decide_eq_true hi, cond_true] at hpre ⊢
      rw [cond_true, round_map h hk hi ((runR_pre m l n (i + 1) _).trans hpre)]
      exact run_map n (i + 1) _ hpre
    · rw [decide_eq_false hi]; rfl
end
theorem seen_again {m : Nat} {l : List St3} (S : Sys m l) (hk : (sRun m l).1.length ≤ 6) : sRun (((sRun m l).1.length : Nat) : Int) (sRun m l).2 = mapS (sRun m l) := by
  have h := run_fin S
  have := run_map h hk 70 0 ([quietN m l 1], []) (List.prefix_refl _)
  have e : quietN (((sRun m l).1.length : Nat) : Int) (sRun m l).2 1 = 1 := plain_quiet (fin_plain h) 1
  show runR _ _ 70 0 ([quietN (((sRun m l).1.length : Nat) : Int) (sRun m l).2 1], []) = _
  rw [e]
  exact this
theorem R10_ok (n : Int) (l : List St3) (hl : l.length < Lg) (tr : List Int) (htr : tr.length < Lg) : R10 Ar.std n (eSt l) (eInt tr) = some true := by
  have h42 := R42_eq [(n, l)] (by show 1 < 9223372036854775808; decide) (fun s hs => by rw [List.mem_singleton] at hs; subst hs; exact hl)
  have h42' : R42 Ar.std [.agg [.int .i64 n, .list 3 (eSt l)]] = some (okSy (n, l)) := by
    have e : [(n, l)].all okSy = okSy (n, l) := by simp
    rw [e] at h42; exact h42
  have hlt : Ar.std.len (eInt tr) = (tr.length : Int) := by rw [eInt, len_enc]
  unfold R10
  rw [h42', bsome, hlt, std_zlt]
  have hmain : (bif okSy (n, l) then some (decide ((100 : Int) < tr.length)) else some true) = some (bif okSy (n, l) then decide ((100 : Int) < tr.length) else true) := by
    cases okSy (n, l) <;> rfl
  rw [hmain, bsome]
  cases hv0 : okSy (n, l) with
  | false => rw [cond_false, cond_true, R17_eq]; rfl
  | true =>
    have hv : vSys n l = true := okSy_v hv0
    rw [cond_true]
    cases hlong : decide ((100 : Int) < tr.length) with
    | true => rw [cond_true, R17_eq]; rfl
    | false =>
      have hlen : tr.length ≤ 100 := by have := of_decide_eq_false hlong; omega
      obtain ⟨m, rfl, S⟩ := Sys.of hv
      have hF := run_fin S
      have h28 := R28_eq m l hl
      rw [cond_false, h28, bsome]
      dsimp only
      by_cases hk : (sRun m l).1.length ≤ 6
      · have hs : seenS m l = ((((sRun m l).1.length : Nat) : Int), (sRun m l).2, 0) := by
          unfold seenS
          rw [hv, cond_true, decide_eq_false (by omega)]; rfl
        have hv2 := fin_valid hF hk
        have hp2 := fin_plain hF
        have S2 := fin_sys hF hk
        have hl2 : (sRun m l).2.length < Lg := by have := seenS_len m l; rw [hs] at this; exact this
        have hk0 := hF.pos
        
        have hsame : ∀ w, Lab w → (behindN m l w = 0 ↔ behindN (((sRun m l).1.length : Nat) : Int) (sRun m l).2 w = 0) := fun w hw => fin_same hF hk hw
        have no1 : ∀ w, ¬ Sep (comesN m l) (comesN (((sRun m l).1.length : Nat) : Int) (sRun m l).2) (q0 m l (sRun m l).1.length (sRun m l).2) w := fun w hw => hw.2.1 ((hsame w hw.1).2 hw.2.2)
        have no2 : ∀ w, ¬ Sep (comesN (((sRun m l).1.length : Nat) : Int) (sRun m l).2) (comesN m l) (q0 (sRun m l).1.length (sRun m l).2 m l) w := fun w hw => hw.2.1 ((hsame w hw.1).1 hw.2.2)
        have hag : seenS (((sRun m l).1.length : Nat) : Int) (sRun m l).2 = ((((sRun m l).1.length : Nat) : Int), (sRun m l).2, 0) := by
          have e := seen_again S hk
          unfold seenS
          rw [hv2, cond_true, e]
          have e2 : (mapS (sRun m l)).1.length = (sRun m l).1.length := pw_len _
          rw [e2, decide_eq_false (by omega)]; rfl
        have hs1 : shw m l (((sRun m l).1.length : Nat) : Int) (sRun m l).2 = ([], 5) := by
          rcases shw_spec S S2 hv hv2 with ⟨t, _, ht⟩ | ⟨h1, _⟩
          · exact absurd ht.1 (no1 t)
          · exact h1
        have hs2 : shw (((sRun m l).1.length : Nat) : Int) (sRun m l).2 m l = ([], 5) := by
          rcases shw_spec S2 S hv2 hv with ⟨t, _, ht⟩ | ⟨h1, _⟩
          · exact absurd ht.1 (no2 t)
          · exact h1
        have hr : (bestF m l (sRun m l).1.length (sRun m l).2 0).testBit 0 = true := plain_refines S S2 hp2 no1
        have a34 := R34_eq (((sRun m l).1.length : Nat) : Int) _ hl2
        rw [hv2] at a34
        have a25 := plain_eq hl2 hv2
        rw [hp2] at a25
        have a44 := R44_eq m (((sRun m l).1.length : Nat) : Int) l _ hl hl2
        rw [rfn_of rfl rfl hv hv2, hr] at a44
        have a28 := R28_eq (((sRun m l).1.length : Nat) : Int) _ hl2
        rw [hag] at a28
        have a23 := R23_eq m (((sRun m l).1.length : Nat) : Int) l _ hl hl2
        rw [hs1] at a23
        have b23 := R23_eq (((sRun m l).1.length : Nat) : Int) m _ l hl2 hl
        rw [hs2] at b23
        have a30 := R30_same (((sRun m l).1.length : Nat) : Int) _ hl2
        have t1 := R18_eq m l hl tr htr
        have t2 := R18_eq (((sRun m l).1.length : Nat) : Int) _ hl2 tr htr
        have ht : isTr m l tr = isTr (((sRun m l).1.length : Nat) : Int) (sRun m l).2 tr := by
          cases hw : (decide ((1000 : Int) < tr.length) || !seenL tr) with
          | true => rw [isTr_bad hv hw, isTr_bad hv2 hw]
          | false =>
            rw [Bool.or_eq_false_iff, Bool.not_eq_false'] at hw
            have hlab := seen_lab.1 hw.2
            rw [isTr_lab hv hlab (by omega), isTr_lab hv2 hlab (by omega), decide_eq_decide.2 (hsame tr hlab)]
        rw [ht] at t1
        generalize isTr (((sRun m l).1.length : Nat) : Int) (sRun m l).2 tr = q at t1 t2
        obtain ⟨x, y⟩ := q
        rw [hs]
        dsimp only
        rw [zeqS, cond_true, a34, bsome, cond_true, a25, bsome]
        dsimp only
        rw [a44, bsome]
        dsimp only
        rw [a28, bsome]
        dsimp only
        rw [a23, bsome]
        dsimp only
        rw [b23, bsome]
        dsimp only
        have hall : (bif Ar.std.zeq 0 0 then bif Ar.std.zeq 0 0 then bif Ar.std.zeq 0 0 then bif Ar.std.zeq 5 5 then bif Ar.std.zeq 5 5 then bif true then bif true then (R30 Ar.std (((sRun m l).1.length : Nat) : Int) (eSt (sRun m l).2) (((sRun m l).1.length : Nat) : Int) (eSt (sRun m l).2)).bind fun r50 => some (!r50) else some true else some true else some true else some true else some true else some true else some true) = some false := by
          rw [zeqS, zeqS, a30]; rfl
        rw [hall, bsome, cond_false, t1, bsome]
        dsimp only
        rw [t2, bsome]
        dsimp only
        rw [beqS, cond_true, zeqS, cond_true, R17_eq]; rfl
      · have hs : seenS m l = (0, [], 4) := by
          unfold seenS
          rw [hv, cond_true, decide_eq_true (by omega)]; rfl
        rw [hs]
        dsimp only
        rw [show Ar.std.zeq 4 0 = false from rfl, cond_false, zeqS, cond_true, zeqS, cond_true, R17_eq]; rfl
end Go.Am
