/- Own text: RL63. -/
import Derived.Test.YtcnplegmmmobcaaRL36
set_option maxRecDepth 100000
set_option linter.unusedVariables false
set_option linter.unusedSimpArgs false
set_option linter.unusedSectionVars false
namespace Go.Am
open Go
end Go.Am

set_option maxRecDepth 100000
set_option linter.unusedVariables false
set_option linter.unusedSimpArgs false
set_option linter.unusedSectionVars false
namespace Go.Am
open Go
end Go.Am

set_option maxRecDepth 100000
set_option linter.unusedVariables false
set_option linter.unusedSimpArgs false
set_option linter.unusedSectionVars false
namespace Go.Am
open Go
def part (k : Nat) (f : Nat → Nat) (x : Nat) : Nat := if x < k then f x else 0
end Go.Am

set_option maxRecDepth 100000
set_option linter.unusedVariables false
set_option linter.unusedSimpArgs false
set_option linter.unusedSectionVars false
namespace Go.Am
open Go
def itr {α : Type} (f : α → α) : Nat → α → α
  | 0, s => s
  | k + 1, s => itr f k (f s)
theorem itr_fix {α : Type} {f : α → α} {s : α} (h : f s = s) : ∀ k, itr f k s = s
  | 0 => rfl
  | k + 1 => by rw [itr, h]; exact itr_fix h k
def clr (a y : Nat) : Nat := a &&& (63 - 2 ^ y)
theorem clr_all : ∀ (a : Fin 64) (y z : Fin 6), (clr a.val y.val).testBit z.val = (a.val.testBit z.val && !decide (z.val = y.val)) := by decide +kernel
theorem clr_lt (a y : Nat) : clr a y < 64 := Nat.lt_of_le_of_lt Nat.and_le_right (by have := Nat.sub_le 63 (2 ^ y); omega)
theorem high_false {a z : Nat} (h : a < 64) (hz : 6 ≤ z) : a.testBit z = false := Nat.testBit_lt_two_pow (Nat.lt_of_lt_of_le h (Nat.pow_le_pow_right (n := 2) (by decide) hz))
theorem clr_test {a y : Nat} (ha : a < 64) (hy : y < 6) (z : Nat) : (clr a y).testBit z = (a.testBit z && !decide (z = y)) := by
  rcases Nat.lt_or_ge z 6 with hz | hz
  · exact clr_all ⟨a, ha⟩ ⟨y, hy⟩ ⟨z, hz⟩
  · rw [high_false (clr_lt a y) hz, high_false ha hz]; rfl
theorem andNot_u8 : ∀ (a : Fin 64) (y : Fin 6), bitsStd .andNot .u8 ((a.val : Nat) : Int) ((2 ^ y.val : Nat) : Int) = ((clr a.val y.val : Nat) : Int) := by decide +kernel
theorem card_clr {a y : Nat} (ha : a < 64) (hy : y < 6) (h : a.testBit y = true) : card 6 (clr a y) < card 6 a := by
  unfold card
  refine countP_lt (fun z hz => ?_) (List.mem_range.2 hy) ?_ h
  · rw [clr_test ha hy] at hz
    simp only [Bool.and_eq_true] at hz
    exact hz.1
  · rw [clr_test ha hy]; simp
def sizeF (f : Nat → Nat) : Nat := card 6 (f 0) + card 6 (f 1) + card 6 (f 2) + card 6 (f 3) + card 6 (f 4) + card 6 (f 5)
theorem size_upd {f : Nat → Nat} {x v : Nat} (hx : x < 6) (h : card 6 v < card 6 (f x)) : sizeF (upd f x v) < sizeF f := by
  unfold sizeF upd
  match x, hx with
  | 0, _ => simp; omega
  | 1, _ => simp; omega
  | 2, _ => simp; omega
  | 3, _ => simp; omega
  | 4, _ => simp; omega
  | 5, _ => simp; omega
section
variable (K : (Nat → Nat) → Nat → Nat → Bool)
def dwc (x : Nat) (f : Nat → Nat) (y : Nat) : Nat → Nat := bif K f x y then f else upd f x (clr (f x) y)
def dwx (f : Nat → Nat) (x : Nat) : Nat → Nat := (bl (f x)).foldl (dwc K x) f
def dws (m : Nat) (f : Nat → Nat) : Nat → Nat := (List.range m).foldl (dwx K) f
def swc (x : Nat) (s : Bool × (Nat → Nat)) (y : Nat) : Bool × (Nat → Nat) := bif K s.2 x y then s else (true, upd s.2 x (clr (s.2 x) y))
def swx (s : Bool × (Nat → Nat)) (x : Nat) : Bool × (Nat → Nat) := (bl (s.2 x)).foldl (swc K x) s
def sws (m : Nat) (f : Nat → Nat) : Bool × (Nat → Nat) := (List.range m).foldl (swx K) (false, f)
variable {K}
theorem swc_snd (x : Nat) (s : Bool × (Nat → Nat)) (y : Nat) : (swc K x s y).2 = dwc K x s.2 y := by
  unfold swc dwc; cases K s.2 x y <;> rfl
theorem foldl_snd {α β γ : Type} {f : α × β → γ → α × β} {g : β → γ → β} (h : ∀ s c, (f s c).2 = g s.2 c) : ∀ (l : List γ) (s : α × β), (l.foldl f s).2 = l.foldl g s.2
  | [], _ => rfl
  | c :: l, s => by rw [List.foldl_cons, List.foldl_cons, foldl_snd h l, h]
theorem swx_snd (s : Bool × (Nat → Nat)) (x : Nat) : (swx K s x).2 = dwx K s.2 x := foldl_snd (fun s y => swc_snd x s y) _ s
theorem sws_snd (m : Nat) (f : Nat → Nat) : (sws K m f).2 = dws K m f := foldl_snd (fun s x => swx_snd s x) _ (false, f)
theorem dwc_lt {x : Nat} {f : Nat → Nat} {y : Nat} (h : ∀ i, f i < 64) (i : Nat) : dwc K x f y i < 64 := by
  unfold dwc
  cases K f x y with
  | true => exact h i
  | false =>
    show upd f x (clr (f x) y) i < 64
    unfold upd; split
    · exact clr_lt _ _
    · exact h i
theorem fold_ltK {γ : Type} {g : (Nat → Nat) → γ → (Nat → Nat)} (hg : ∀ f c, (∀ i, f i < 64) → ∀ i, g f c i < 64) : ∀ (l : List γ) (f : Nat → Nat), (∀ i, f i < 64) → ∀ i, l.foldl g f i < 64
  | [], f, h => h
  | c :: l, f, h => fold_ltK hg l (g f c) (hg f c h)
theorem dwx_lt {f : Nat → Nat} {x : Nat} (h : ∀ i, f i < 64) : ∀ i, dwx K f x i < 64 := fold_ltK (fun f y h => dwc_lt h) _ f h
theorem dws_lt {m : Nat} {f : Nat → Nat} (h : ∀ i, f i < 64) : ∀ i, dws K m f i < 64 := fold_ltK (fun f x h => dwx_lt h) _ f h
structure Ch (s t : Bool × (Nat → Nat)) : Prop where
  no : t.1 = false → s.1 = false ∧ t.2 = s.2
  yes : t.1 = true → s.1 = true ∨ sizeF t.2 < sizeF s.2
  le : sizeF t.2 ≤ sizeF s.2
theorem Ch.refl (s : Bool × (Nat → Nat)) : Ch s s := ⟨fun h => ⟨h, rfl⟩, fun h => .inl h, Nat.le_refl _⟩
theorem Ch.trans {s t u : Bool × (Nat → Nat)} (h : Ch s t) (h' : Ch t u) : Ch s u := by
  refine ⟨fun hu => ?_, fun hu => ?_, Nat.le_trans h'.le h.le⟩
  · obtain ⟨a, b⟩ := h'.no hu
    obtain ⟨c, d⟩ := h.no a
    exact ⟨c, b.trans d⟩
  · rcases h'.yes hu with a | a
    · rcases h.yes a with b | b
      · exact .inl b
      · exact .inr (Nat.lt_of_le_of_lt h'.le b)
    · exact .inr (Nat.lt_of_lt_of_le a h.le)
theorem swc_fold {x : Nat} (hx : x < 6) : ∀ (ys : List Nat) (s : Bool × (Nat → Nat)), ys.Nodup → (∀ i, s.2 i < 64) → (∀ y ∈ ys, y < 6 ∧ (s.2 x).testBit y = true) →
    Ch s (ys.foldl (swc K x) s) ∧ ((ys.foldl (swc K x) s).1 = false → ∀ y ∈ ys, K s.2 x y = true)
  | [], s, _, _, _ => ⟨Ch.refl s, fun _ y hy => by cases hy⟩
  | y :: ys, s, hn, h64, hy => by
    have hn' := List.nodup_cons.1 hn
    have hy0 := hy y (by simp)
    rw [List.foldl_cons]
    unfold swc
    cases hK : K s.2 x y with
    | true =>
      rw [cond_true]
      have ih := swc_fold hx ys s hn'.2 h64 fun z hz => hy z (by simp [hz])
      refine ⟨ih.1, fun h z hz => ?_⟩
      rcases List.mem_cons.1 hz with rfl | hz
      · exact hK
      · exact ih.2 h z hz
    | false =>
      rw [cond_false]
      have ih := swc_fold hx ys (true, upd s.2 x (clr (s.2 x) y)) hn'.2 (fun i => by
        show upd s.2 x (clr (s.2 x) y) i < 64
        unfold upd; split
        · exact clr_lt _ _
        · exact h64 i) (fun z hz => by
        refine ⟨(hy z (by simp [hz])).1, ?_⟩
        show (upd s.2 x (clr (s.2 x) y) x).testBit z = true
        unfold upd
        have hne : ¬ z = y := fun e => hn'.1 (by rw [← e]; exact hz)
        rw [if_pos rfl, clr_test (h64 x) hy0.1, (hy z (by simp [hz])).2, decide_eq_false hne]; rfl)
      have hc : Ch s (true, upd s.2 x (clr (s.2 x) y)) := by
        have := size_upd hx (card_clr (h64 x) hy0.1 hy0.2)
        exact ⟨fun h => (by cases h), fun _ => .inr this, Nat.le_of_lt this⟩
      refine ⟨hc.trans ih.1, fun h => ?_⟩
      have := (ih.1.no h).1
      cases this
theorem swx_ch {s : Bool × (Nat → Nat)} {x : Nat} (hx : x < 6) (h64 : ∀ i, s.2 i < 64) : Ch s (swx K s x) ∧ ((swx K s x).1 = false → ∀ y ∈ bl (s.2 x), K s.2 x y = true) :=
  swc_fold hx _ s (bl_nodup _) h64 fun y hy => mem_bl.1 hy
theorem swx_fold : ∀ (xs : List Nat) (s : Bool × (Nat → Nat)), (∀ x ∈ xs, x < 6) → (∀ i, s.2 i < 64) →
    Ch s (xs.foldl (swx K) s) ∧ ((xs.foldl (swx K) s).1 = false → ∀ x ∈ xs, ∀ y ∈ bl (s.2 x), K s.2 x y = true)
  | [], s, _, _ => ⟨Ch.refl s, fun _ y hy => by cases hy⟩
  | x :: xs, s, hx, h64 => by
    have h1 := swx_ch (K := K) (s := s) (hx x (by simp)) h64
    have ih := swx_fold xs (swx K s x) (fun z hz => hx z (by simp [hz])) (by rw [swx_snd]; exact dwx_lt h64)
    rw [List.foldl_cons]
    refine ⟨h1.1.trans ih.1, fun h => ?_⟩
    obtain ⟨a, b⟩ := ih.1.no h
    obtain ⟨c, d⟩ := h1.1.no a
    intro z hz
    rcases List.mem_cons.1 hz with rfl | hz
    · exact h1.2 a
    · have := ih.2 h z hz
      rw [d] at this
      exact this
theorem sws_ch {m : Nat} (hm : m ≤ 6) {f : Nat → Nat} (h64 : ∀ i, f i < 64) : Ch (false, f) (sws K m f) ∧ ((sws K m f).1 = false → ∀ x, x < m → ∀ y ∈ bl (f x), K f x y = true) := by
  have h := swx_fold (K := K) (List.range m) (false, f) (fun x hx => by have := List.mem_range.1 hx; omega) h64
  exact ⟨h.1, fun hh x hx => h.2 hh x (List.mem_range.2 hx)⟩
theorem fix_of {m : Nat} (hm : m ≤ 6) {f : Nat → Nat} (h64 : ∀ i, f i < 64) (h : (sws K m f).1 = false) : dws K m f = f := by
  rw [← sws_snd]; exact ((sws_ch hm h64).1.no h).2
def subF (p f : Nat → Nat) : Prop := ∀ x, Wi (p x) (f x)
def isPf (K : (Nat → Nat) → Nat → Nat → Bool) (m : Nat) (f : Nat → Nat) : Prop := ∀ x, x < m → ∀ y ∈ bl (f x), K f x y = true
theorem dwc_sub (hK : ∀ f g x y, subF f g → K f x y = true → K g x y = true) {p f : Nat → Nat} {x y : Nat} (hy : y < 6) (h64 : f x < 64) (hp : ∀ z ∈ bl (p x), K p x z = true) (h : subF p f) : subF p (dwc K x f y) := by
  unfold dwc
  cases hk : K f x y with
  | true => exact h
  | false =>
    intro i
    show Wi (p i) (upd f x (clr (f x) y) i)
    unfold upd
    split
    · rename_i hi
      subst hi
      refine Nat.eq_of_testBit_eq fun z => ?_
      rw [Nat.testBit_or, clr_test h64 hy]
      cases hz : (p i).testBit z with
      | false => rfl
      | true =>
        have h1 := (h i).test hz
        have : z ≠ y := by
          rintro rfl
          have := hK p f i z h (hp z (mem_bl.2 ⟨hy, hz⟩))
          rw [hk] at this; cases this
        rw [h1, decide_eq_false this]; rfl
    · exact h i
theorem dwx_sub (hK : ∀ f g x y, subF f g → K f x y = true → K g x y = true) {p : Nat → Nat} {x : Nat} (hp : ∀ z ∈ bl (p x), K p x z = true) : ∀ (ys : List Nat) {f : Nat → Nat}, (∀ y ∈ ys, y < 6) → (∀ i, f i < 64) → subF p f → subF p (ys.foldl (dwc K x) f)
  | [], f, _, _, h => h
  | y :: ys, f, hy, h64, h => dwx_sub hK hp ys (fun z hz => hy z (by simp [hz])) (dwc_lt h64) (dwc_sub hK (hy y (by simp)) (h64 x) hp h)
theorem dws_sub (hK : ∀ f g x y, subF f g → K f x y = true → K g x y = true) {p : Nat → Nat} : ∀ (xs : List Nat) {f : Nat → Nat}, (∀ x ∈ xs, ∀ z ∈ bl (p x), K p x z = true) → (∀ i, f i < 64) → subF p f → subF p (xs.foldl (dwx K) f)
  | [], f, _, _, h => h
  | x :: xs, f, hp, h64, h => dws_sub hK xs (fun z hz => hp z (by simp [hz])) (dwx_lt h64) (dwx_sub hK (hp x (by simp)) _ (fun y hy => (mem_bl.1 hy).1) h64 h)
theorem itr_sub (hK : ∀ f g x y, subF f g → K f x y = true → K g x y = true) {m : Nat} {p : Nat → Nat} (hp : isPf K m p) : ∀ (k : Nat) {f : Nat → Nat}, (∀ i, f i < 64) → subF p f → subF p (itr (dws K m) k f)
  | 0, f, _, h => h
  | k + 1, f, h64, h => itr_sub hK hp k (dws_lt h64) (dws_sub hK _ (fun x hx => hp x (List.mem_range.1 hx)) h64 h)
end
end Go.Am

set_option maxRecDepth 100000
set_option linter.unusedVariables false
set_option linter.unusedSimpArgs false
set_option linter.unusedSectionVars false
namespace Go.Am
open Go
def badK (m' : Nat) (l' : List St3) (f : Nat → Nat) (x y : Nat) (z : St3) : Bool := decide (z.1 = (x : Int)) && decide (comesN m' l' (2 ^ y) z.2.1 &&& f z.2.2.toNat = 0)
def keepN (l : List St3) (m' : Nat) (l' : List St3) (f : Nat → Nat) (x y : Nat) : Bool := !l.any (badK m' l' f x y)
theorem andS {a b : Nat} (ha : a < 64) (hb : b < 64) : Ar.std.bits .and .u8 (a : Int) (b : Int) = ((a &&& b : Nat) : Int) := by rw [std_bits]; exact and_u8 a b (by omega) (by omega)
def badL (l : List St3) (m' : Nat) (l' : List St3) (f : Nat → Nat) (x y lab : Nat) : Bool := (bl (stepN l (2 ^ x) (lab : Int))).any fun to => decide (f to &&& comesN m' l' (2 ^ y) (lab : Int) = 0)
theorem step_mem {l : List St3} (hl : SOk l) {x lab : Nat} (to : Nat) : to ∈ bl (stepN l (2 ^ x) (lab : Int)) ↔ ∃ z ∈ l, z.2.1 = (lab : Int) ∧ z.1 = (x : Int) ∧ z.2.2 = (to : Int) := by
  rw [mem_bl, stepN_test]
  simp only [List.any_eq_true, goes, Bool.and_eq_true, decide_eq_true_eq, Nat.testBit_two_pow]
  constructor
  · rintro ⟨h6, z, hz, ⟨h1, h2⟩, h3⟩
    have := hl.2 z hz
    exact ⟨z, hz, h1, by omega, by omega⟩
  · rintro ⟨z, hz, h1, h2, h3⟩
    have := hl.2 z hz
    refine ⟨by omega, z, hz, ⟨h1, by omega⟩, by omega⟩
theorem keep_labels {l : List St3} (hl : SOk l) (m' : Nat) (l' : List St3) (f : Nat → Nat) (x y : Nat) : (List.range 4).any (badL l m' l' f x y) = l.any (badK m' l' f x y) := by
  rw [Bool.eq_iff_iff]
  simp only [List.any_eq_true, List.mem_range, badL, badK, Bool.and_eq_true, decide_eq_true_eq]
  constructor
  · rintro ⟨lab, hlab, to, hto, h0⟩
    obtain ⟨z, hz, h1, h2, h3⟩ := (step_mem hl to).1 hto
    refine ⟨z, hz, h2, ?_⟩
    rw [h1, h3, Int.toNat_natCast, Nat.and_comm]; exact h0
  · rintro ⟨z, hz, h1, h2⟩
    have := hl.2 z hz
    have e : ((z.2.1.toNat : Nat) : Int) = z.2.1 := by omega
    refine ⟨z.2.1.toNat, by omega, z.2.2.toNat, (step_mem hl _).2 ⟨z, hz, by omega, h1, by omega⟩, ?_⟩
    rw [e, Nat.and_comm]; exact h2
theorem R99_eq {m m' : Nat} {l l' : List St3} (S : Sys m l) (S' : Sys m' l') {f : Nat → Nat} (hf : ∀ i, f i < 64) {x y : Nat} (hx : x < 6) (hy : y < m') : R99 Ar.std (rU f) (x : Int) (y : Int) (FR m l (tF m l)) (FR m' l' (tF m' l')) = some (keepN l m' l' f x y) := by
  have hm' := S'.le
  have hy6 : y < 6 := by omega
  have key := iter_stop (step := R99L1 Ar.std (rU f) (x : Int) (y : Int) (FR m l (tF m l)) (FR m' l' (tF m' l'))) 4 (fun i => (i : Int)) (badL l m' l' f x y) () (fun lab hlab _ => by
    have hs : tF m l (6 * lab + x) = stepN l (2 ^ x) (lab : Int) := by
      rw [tF_step _ (by omega), show (6 * lab + x) % 6 = x from by omega, show (6 * lab + x) / 6 = lab from by omega]
    have hst : stepN l (2 ^ x) (lab : Int) < 64 := stepN_lt S.ok _ _
    have hc : tF m' l' (24 + 6 * lab + y) = comesN m' l' (2 ^ y) (lab : Int) := tF_comes hlab hy hy6
    have hc64 : comesN m' l' (2 ^ y) (lab : Int) < 64 := lt64 hm' (comesN_ltB S'.sb (Nat.pow_lt_pow_right (by decide) hy) _)
    have inner := iter_stop (step := R99L0 Ar.std (rU f) (y : Int) (FR m' l' (tF m' l')) (lab : Int) (eInt (cNs (bl (stepN l (2 ^ x) (lab : Int)))))) (bl (stepN l (2 ^ x) (lab : Int))).length (fun i => (i : Int)) (fun i => ((bl (stepN l (2 ^ x) (lab : Int)))[i]?.map fun to => decide (f to &&& comesN m' l' (2 ^ y) (lab : Int) = 0)).getD false) () (fun i hi _ => by
      have ha := List.getElem?_eq_getElem hi
      generalize (bl (stepN l (2 ^ x) (lab : Int)))[i] = a at ha
      have ha6 : a < 6 := (mem_bl.1 (List.mem_of_getElem? ha)).1
      have hlt : Ar.std.zlt (i : Int) (Ar.std.len (eInt (cNs (bl (stepN l (2 ^ x) (lab : Int)))))) = true := by rw [eIc_len]; exact ltN hi
      have hgt : gt Ar.std (cI .i64) (eInt (cNs (bl (stepN l (2 ^ x) (lab : Int))))) (i : Int) = some (a : Int) := gt_enc (cNs_get ha)
      have hb := bl_len (stepN l (2 ^ x) (lab : Int))
      have hix := ix3 lab y 24
      have hstep : R99L0 Ar.std (rU f) (y : Int) (FR m' l' (tF m' l')) (lab : Int) (eInt (cNs (bl (stepN l (2 ^ x) (lab : Int))))) (i : Int) = some (bif decide (f a &&& comesN m' l' (2 ^ y) (lab : Int) = 0) then .inr (.inr ()) else .inl ((i + 1 : Nat) : Int)) := by
        unfold R99L0
        rw [hlt, cond_true, hgt, bsome, ckN, bsome, ckL ha6, bsome, ix1, rU_gc _ ha6, bsome, ckN, bsome, ckL hlab, bsome, ckN, bsome, ckL hy6, bsome, hix, FR_gc _ _ _ (by omega), bsome, hc, andS (hf a) hc64, zeqN, inc (by omega : i < 100) (by decide)]
        cases decide (f a &&& comesN m' l' (2 ^ y) (lab : Int) = 0) <;> rfl
      rw [ha, Option.map_some, Option.getD_some]
      exact ⟨fun hb => by rw [hstep, hb, cond_false], fun hb => ⟨(), by rw [hstep, hb, cond_true]⟩⟩) (fun _ => by
      unfold R99L0
      rw [show Ar.std.zlt ((bl (stepN l (2 ^ x) (lab : Int))).length : Int) (Ar.std.len (eInt (cNs (bl (stepN l (2 ^ x) (lab : Int)))))) = false from by rw [eIc_len]; exact geN _, cond_false])
    have hany : (List.range (bl (stepN l (2 ^ x) (lab : Int))).length).any (fun i => ((bl (stepN l (2 ^ x) (lab : Int)))[i]?.map fun to => decide (f to &&& comesN m' l' (2 ^ y) (lab : Int) = 0)).getD false) = badL l m' l' f x y lab := by
      unfold badL
      rw [Bool.eq_iff_iff]
      simp only [List.any_eq_true, List.mem_range]
      constructor
      · rintro ⟨i, hi, h⟩
        rw [List.getElem?_eq_getElem hi, Option.map_some, Option.getD_some] at h
        exact ⟨_, List.getElem_mem hi, h⟩
      · rintro ⟨a, ha, h⟩
        obtain ⟨i, hi, rfl⟩ := List.getElem_of_mem ha
        exact ⟨i, hi, by rw [List.getElem?_eq_getElem hi, Option.map_some, Option.getD_some]; exact h⟩
    rw [hany] at inner
    have hix2 := ix3 lab x 0
    rw [show 0 + 6 * lab + x = 6 * lab + x from by omega] at hix2
    have e0 : (((0 : Nat) : Int)) = 0 := rfl
    have hL : iter (R99L0 Ar.std (rU f) (y : Int) (FR m' l' (tF m' l')) (lab : Int) (eInt (cNs (bl (stepN l (2 ^ x) (lab : Int)))))) 0 = some (bif badL l m' l' f x y lab then .inr () else .inl ()) := by
      rw [← e0]
      rcases inner with ⟨h1, _, h3⟩ | ⟨h1, z, h3⟩
      · rw [h1]; exact h3
      · rw [h1]; exact h3
    have hstep : R99L1 Ar.std (rU f) (x : Int) (y : Int) (FR m l (tF m l)) (FR m' l' (tF m' l')) (lab : Int) = some (bif badL l m' l' f x y lab then .inr (.inr ()) else .inl ((lab + 1 : Nat) : Int)) := by
      unfold R99L1
      rw [lt4 hlab, cond_true, ckN, bsome, ckL hlab, bsome, ckN, bsome, ckL hx, bsome, hix2, FR_gc _ _ _ (by omega), bsome, hs, R76_eq _ hst, bsome, hL, bsome, inc (by omega : lab < 100) (by decide)]
      cases badL l m' l' f x y lab <;> rfl
    exact ⟨fun hb => by rw [hstep, hb, cond_false], fun hb => ⟨(), by rw [hstep, hb, cond_true]⟩⟩) (fun _ => by
    unfold R99L1
    rw [show Ar.std.zlt ((4 : Nat) : Int) 4 = false from rfl, cond_false])
  have e0 : (((0 : Nat) : Int)) = 0 := rfl
  rw [e0, keep_labels S.ok] at key
  unfold R99 keepN
  rw [rU_len, bsome]
  rcases key with ⟨h1, _, h3⟩ | ⟨h1, z, h3⟩
  · rw [h3, bsome, h1]; rfl
  · rw [h3, bsome, h1]; rfl
end Go.Am

set_option maxRecDepth 100000
set_option linter.unusedVariables false
set_option linter.unusedSimpArgs false
set_option linter.unusedSectionVars false
namespace Go.Am
open Go
section
variable {m m' : Nat} {l l' : List St3}
def allF (m m' : Nat) (x : Nat) : Nat := if x < m then 2 ^ m' - 1 else 0
theorem allF_size : ∀ (m m' : Fin 7), sizeF (allF m.val m'.val) ≤ m.val * m'.val := by decide +kernel
def bestF (m : Nat) (l : List St3) (m' : Nat) (l' : List St3) : Nat → Nat := itr (dws (keepN l m' l') m) (m * m') (allF m m')
theorem clr_ltB {a y n : Nat} (h : a < 2 ^ n) : clr a y < 2 ^ n := Nat.lt_of_le_of_lt Nat.and_le_left h
theorem dwc_inB {K : (Nat → Nat) → Nat → Nat → Bool} {x y : Nat} {f : Nat → Nat} (h : ∀ i, f i < 2 ^ m') (i : Nat) : dwc K x f y i < 2 ^ m' := by
  unfold dwc
  cases K f x y with
  | true => exact h i
  | false =>
    show upd f x (clr (f x) y) i < _
    unfold upd; split
    · exact clr_ltB (h x)
    · exact h i
theorem fold_inv {γ S : Type} {P : S → Prop} {g : S → γ → S} (hg : ∀ f c, P f → P (g f c)) : ∀ (l : List γ) (f : S), P f → P (l.foldl g f)
  | [], f, h => h
  | c :: l, f, h => fold_inv hg l (g f c) (hg f c h)
theorem dwx_inB {K : (Nat → Nat) → Nat → Nat → Bool} {x : Nat} {f : Nat → Nat} (h : ∀ i, f i < 2 ^ m') : ∀ i, dwx K f x i < 2 ^ m' := fold_inv (g := dwc K x) (P := fun f => ∀ i, f i < 2 ^ m') (fun f c h => dwc_inB (f := f) h) _ f h
theorem dws_inB {K : (Nat → Nat) → Nat → Nat → Bool} {f : Nat → Nat} (h : ∀ i, f i < 2 ^ m') : ∀ i, dws K m f i < 2 ^ m' := fold_inv (g := dwx K) (P := fun f => ∀ i, f i < 2 ^ m') (fun f c h => dwx_inB (f := f) h) _ f h
theorem itr_inB {K : (Nat → Nat) → Nat → Nat → Bool} : ∀ (k : Nat) {f : Nat → Nat}, (∀ i, f i < 2 ^ m') → ∀ i, itr (dws K m) k f i < 2 ^ m'
  | 0, f, h => h
  | k + 1, f, h => itr_inB k (dws_inB h)
theorem allF_inB (i : Nat) : allF m m' i < 2 ^ m' := by
  have := Nat.two_pow_pos m'
  unfold allF; split <;> omega
theorem lt2 {m' : Nat} (hm' : m' ≤ 6) {f : Nat → Nat} (h : ∀ i, f i < 2 ^ m') : ∀ i, f i < 64 := fun i => lt64 hm' (h i)
theorem andNotS {a y : Nat} (ha : a < 64) (hy : y < 6) : Ar.std.bits .andNot .u8 (a : Int) ((2 ^ y : Nat) : Int) = ((clr a y : Nat) : Int) := by rw [std_bits]; exact andNot_u8 ⟨a, ha⟩ ⟨y, hy⟩
theorem R90L1_eq (S : Sys m l) (S' : Sys m' l') {x : Nat} (hx : x < 6) {a : Nat} (ha : a < 2 ^ m') (s0 : Bool × (Nat → Nat)) (h0 : ∀ i, s0.2 i < 2 ^ m') :
    iter (R90L1 Ar.std (FR m l (tF m l)) (FR m' l' (tF m' l')) (x : Int) (eInt (cNs (bl a)))) (s0.1, 0, rU s0.2) = some (((bl a).foldl (swc (keepN l m' l') x) s0).1, rU ((bl a).foldl (swc (keepN l m' l') x) s0).2) := by
  have hm' := S'.le
  have hb := bl_len a
  have key := iter_foldI (step := R90L1 Ar.std (FR m l (tF m l)) (FR m' l' (tF m' l')) (x : Int) (eInt (cNs (bl a)))) (bl a) (fun (s : Bool × (Nat → Nat)) i => (s.1, (i : Int), rU s.2)) (swc (keepN l m' l') x) (fun s => (s.1, rU s.2)) (fun s => ∀ i, s.2 i < 2 ^ m') (fun i y s hy hi hI => by
    refine ⟨?_, by rw [swc_snd]; exact dwc_inB hI⟩
    have hym : y < m' := bl_lt ha (List.mem_of_getElem? hy)
    have hy6 : y < 6 := by omega
    have hlt : Ar.std.zlt (i : Int) (Ar.std.len (eInt (cNs (bl a)))) = true := by rw [eIc_len]; exact ltN hi
    have hgt : gt Ar.std (cI .i64) (eInt (cNs (bl a))) (i : Int) = some (y : Int) := gt_enc (cNs_get hy)
    unfold R90L1 swc
    dsimp only
    rw [hlt, cond_true, hgt, bsome, rU_ga, bsome, R99_eq S S' (lt2 hm' hI) hx hym, bsome, inc (by omega : i < 100) (by decide)]
    cases keepN l m' l' s.2 x y with
    | true => rfl
    | false =>
      rw [cond_false, cond_false, ckN, bsome, ckL hx, bsome, ix1, rU_gc _ hx, bsome, nkN, bsome, bsome, bsome, rU_lget _ hx, bsome, bsome, shlS (by omega), andNotS (lt2 hm' hI x) hy6, rU_lset]) (fun s _ => by
    unfold R90L1
    dsimp only
    rw [show Ar.std.zlt ((bl a).length : Int) (Ar.std.len (eInt (cNs (bl a)))) = false from by rw [eIc_len]; exact geN _, cond_false]) s0 h0
  exact key
theorem range_get {n i : Nat} {a : Nat} (h : (List.range n)[i]? = some a) : a = i ∧ i < n := by
  rw [List.getElem?_eq_some_iff] at h
  obtain ⟨h1, h2⟩ := h
  rw [List.length_range] at h1
  rw [List.getElem_range] at h2
  exact ⟨h2.symm, h1⟩
theorem R90L2_eq (S : Sys m l) (S' : Sys m' l') (s0 : Bool × (Nat → Nat)) (h0 : ∀ i, s0.2 i < 2 ^ m') :
    iter (R90L2 Ar.std (FR m l (tF m l)) (FR m' l' (tF m' l')) (m : Int)) (s0.1, 0, rU s0.2) = some (((List.range m).foldl (swx (keepN l m' l')) s0).1, rU ((List.range m).foldl (swx (keepN l m' l')) s0).2) := by
  have hm := S.le
  have hm' := S'.le
  have key := iter_foldI (step := R90L2 Ar.std (FR m l (tF m l)) (FR m' l' (tF m' l')) (m : Int)) (List.range m) (fun (s : Bool × (Nat → Nat)) i => (s.1, (i : Int), rU s.2)) (swx (keepN l m' l')) (fun s => (s.1, rU s.2)) (fun s => ∀ i, s.2 i < 2 ^ m') (fun i x s hx hi hI => by
    refine ⟨?_, by rw [swx_snd]; exact dwx_inB hI⟩
    obtain ⟨rfl, hi⟩ := range_get hx
    unfold R90L2 swx
    dsimp only
    rw [ltN hi, cond_true, ckN, bsome, ckL (by omega : x < 6), bsome, ix1, rU_gc _ (by omega), bsome, R76_eq _ (lt2 hm' hI x), bsome, R90L1_eq S S' (by omega) (hI x) s hI, bsome, inc (by omega : x < 100) (by decide)]) (fun s _ => by
    unfold R90L2
    dsimp only
    rw [List.length_range, geN, cond_false]) s0 h0
  exact key
theorem FR_gc0' (n : Int) (l : List St3) (f : Nat → Nat) : gc Ar.std (cI .i64) (FR n l f) (Ar.std.nat 0) = some n := FR_gc0 n l f
theorem R90L3_eq (S : Sys m l) (S' : Sys m' l') : ∀ (n : Nat) (f : Nat → Nat), (∀ i, f i < 2 ^ m') → sizeF f ≤ n →
    iter (R90L3 Ar.std (FR m l (tF m l)) (FR m' l' (tF m' l'))) (true, rU f) = some (rU (itr (dws (keepN l m' l') m) n f)) := by
  have step : ∀ (f : Nat → Nat), (∀ i, f i < 2 ^ m') → R90L3 Ar.std (FR m l (tF m l)) (FR m' l' (tF m' l')) (true, rU f) = some (.inl ((sws (keepN l m' l') m f).1, rU (sws (keepN l m' l') m f).2)) := fun f hf => by
    unfold R90L3
    dsimp only
    rw [cond_true, FR_gc0', bsome, R90L2_eq S S' (false, f) hf, bsome]; rfl
  have stop : ∀ (f : Nat → Nat), R90L3 Ar.std (FR m l (tF m l)) (FR m' l' (tF m' l')) (false, rU f) = some (.inr (rU f)) := fun f => by
    unfold R90L3
    dsimp only
    rw [cond_false]
  intro n
  induction n with
  | zero =>
    intro f hf hs
    have h := sws_ch (K := keepN l m' l') S.le (lt2 S'.le hf)
    have hst := step f hf
    cases hc : (sws (keepN l m' l') m f).1 with
    | false =>
      rw [hc, (h.1.no hc).2] at hst
      rw [iter_inl hst, iter_inr (stop f)]; rfl
    | true =>
      rcases h.1.yes hc with a | a
      · cases a
      · have : sizeF (sws (keepN l m' l') m f).2 < sizeF f := a
        omega
  | succ n ih =>
    intro f hf hs
    have h := sws_ch (K := keepN l m' l') S.le (lt2 S'.le hf)
    have hst := step f hf
    cases hc : (sws (keepN l m' l') m f).1 with
    | false =>
      rw [itr_fix (fix_of S.le (lt2 S'.le hf) hc)]
      rw [hc, (h.1.no hc).2] at hst
      rw [iter_inl hst, iter_inr (stop f)]
    | true =>
      rcases h.1.yes hc with a | a
      · cases a
      · have a' : sizeF (dws (keepN l m' l') m f) < sizeF f := by rw [← sws_snd]; exact a
        rw [hc, sws_snd] at hst
        rw [iter_inl hst, itr]
        exact ih _ (dws_inB hf) (by omega)
theorem bestF_inB : ∀ i, bestF m l m' l' i < 2 ^ m' := itr_inB _ allF_inB
theorem R90_eq (S : Sys m l) (S' : Sys m' l') : R90 Ar.std (FR m l (tF m l)) (FR m' l' (tF m' l')) = some (rU (bestF m l m' l')) := by
  have hm := S.le
  have hm' := S'.le
  have h2 : 2 ^ m' ≤ 64 := Nat.pow_le_pow_right (n := 2) (by decide) hm'
  have hp := Nat.two_pow_pos m'
  have key := iter_to (step := R90L0 Ar.std (FR m' l' (tF m' l')) (m : Int)) m (fun i => ((i : Int), rU (allF i m'))) (rU (allF m m')) (fun i hi => by
    have hw : Ar.std.wrp .u8 (Ar.std.zsub (Ar.std.shl .u8 1 (m' : Int)) 1) = ((2 ^ m' - 1 : Nat) : Int) := by
      rw [shlS (by omega), std_wrp, std_zsub, u8w _ (by omega) (by omega)]; omega
    have hu : upd (allF i m') i (2 ^ m' - 1) = allF (i + 1) m' := by
      funext j
      unfold upd allF
      by_cases h : j = i
      · rw [if_pos h, if_pos (by omega)]
      · rw [if_neg h]
        by_cases h2 : j < i
        · rw [if_pos h2, if_pos (by omega)]
        · rw [if_neg h2, if_neg (by omega)]
    unfold R90L0
    dsimp only
    rw [ltN hi, cond_true, FR_gc0', bsome, nkN, bsome, ckN, bsome, ckL (by omega : i < 6), bsome, ix1, rU_lget _ (by omega), bsome, hw, rU_lset, hu, inc (by omega : i < 100) (by decide)]) (by
    unfold R90L0
    dsimp only
    rw [geN, cond_false])
  have e0 : rU (allF 0 m') = rU fun _ => 0 := rU_congr fun i _ => by unfold allF; rw [if_neg (by omega)]
  rw [e0] at key
  have hsz : sizeF (allF m m') ≤ m * m' := allF_size ⟨m, by omega⟩ ⟨m', by omega⟩
  have h3 := R90L3_eq S S' (m * m') (allF m m') allF_inB hsz
  unfold R90
  have key' : iter (R90L0 Ar.std (FR m' l' (tF m' l')) (m : Int)) (0, Ar.std.rep (Int.ofNat 6) (.int .u8 0)) = some (rU (allF m m')) := by rw [rU_rep]; exact key
  rw [FR_gc0', bsome, key', bsome, h3, bsome]
  show (ga Ar.std (rU (bestF m l m' l')) _ _).bind _ = _
  rw [rU_ga, bsome, rU_len, bsome, rU_room, bsome, rU_spl, rU_len, bsome, rU_ones, bsome]
end
end Go.Am

set_option maxRecDepth 100000
set_option linter.unusedVariables false
set_option linter.unusedSimpArgs false
set_option linter.unusedSectionVars false
namespace Go.Am
open Go
section
variable {m m' : Nat} {l l' : List St3}
end
def rfn (n : Int) (l : List St3) (n' : Int) (l' : List St3) : Bool × Int :=
  bif vSys n l && vSys n' l' then ((bestF n.toNat l n'.toNat l' 0).testBit 0, 0) else (false, 50)
theorem R91_eq {a i : Nat} (ha : a < 64) (hi : i < 6) : R91 Ar.std (a : Int) (i : Int) = some (a.testBit i) := by
  unfold R91
  rw [nkN, bsome]
  have h := has_u8 a i (by omega) (by omega)
  simp only [std_zeq, std_bits, std_shr]
  rw [h]
theorem R44_eq (n n' : Int) (l l' : List St3) (hl : l.length < Lg) (hl' : l'.length < Lg) : R44 Ar.std n (eSt l) n' (eSt l') = some (rfn n l n' l') := by
  unfold R44 rfn
  rw [R70_eq n n' l l' hl hl', bsome]
  cases hv : vSys n l with
  | false => rfl
  | true =>
    cases hv' : vSys n' l' with
    | false => rfl
    | true =>
      obtain ⟨m, rfl, S⟩ := Sys.of hv
      obtain ⟨m', rfl, S'⟩ := Sys.of hv'
      have e : R90 Ar.std (FR m l (tF m l)) (FR m' l' (tF m' l')) = some (rU (bestF m l m' l')) := R90_eq S S'
      have h9 : R91 Ar.std ((bestF m l m' l' 0 : Nat) : Int) 0 = some ((bestF m l m' l' 0).testBit 0) := R91_eq (i := 0) (lt2 S'.le bestF_inB 0) (by decide)
      simp only [cond_true, Int.toNat_natCast, Bool.and_self, Sum.elim_inl]
      rw [e, bsome, rU_gc _ (by decide), bsome, h9, bsome]
end Go.Am

set_option maxRecDepth 100000
set_option linter.unusedVariables false
set_option linter.unusedSimpArgs false
set_option linter.unusedSectionVars false
namespace Go.Am
open Go
section
variable {m m' : Nat} {l l' : List St3} (S : Sys m l) (S' : Sys m' l')
include S S'
end
end Go.Am

set_option maxRecDepth 100000
set_option linter.unusedVariables false
set_option linter.unusedSimpArgs false
set_option linter.unusedSectionVars false
namespace Go.Am
open Go
def mem2 (f : Nat → Nat) (x y : Nat) : Prop := (f x).testBit y = true
theorem subF_mem {f g : Nat → Nat} (h : subF f g) {x y : Nat} (hm : mem2 f x y) : mem2 g x y := (h x).test hm
theorem subF_of {f g : Nat → Nat} (h : ∀ x y, mem2 f x y → mem2 g x y) : subF f g := fun x => by
  refine Nat.eq_of_testBit_eq fun z => ?_
  rw [Nat.testBit_or]
  cases hz : (f x).testBit z with
  | false => rfl
  | true => rw [show (g x).testBit z = true from h x z hz]; rfl
theorem subF.refl (f : Nat → Nat) : subF f f := fun x => Wi.refl _
theorem subF.trans {f g h : Nat → Nat} (a : subF f g) (b : subF g h) : subF f h := fun x => (a x).trans (b x)
theorem subF.antisymm {f g : Nat → Nat} (a : subF f g) (b : subF g f) : f = g := funext fun x => (a x).antisymm (b x)
section
variable (m' : Nat) (l' : List St3) (r : Nat → Nat)
def nx (y : Nat) (z : St3) : Nat := Lib.trailingZeros8 (r z.2.2.toNat &&& comesN m' l' (2 ^ y) z.2.1)
def Clo (l : List St3) (h : Nat → Nat) : Prop := ∀ (x y : Nat) (z : St3), z ∈ l → z.1 = (x : Int) → mem2 h x y → mem2 h z.2.2.toNat (nx m' l' r y z)
structure Least (l : List St3) (g : Nat → Nat) : Prop where
  clo : Clo m' l' r l g
  fst : mem2 g 0 0
  min : ∀ h, Clo m' l' r l h → mem2 h 0 0 → subF g h
theorem Least.same {l : List St3} {g g' : Nat → Nat} (h : Least m' l' r l g) (h' : Least m' l' r l g') : g = g' :=
  (h.min g' h'.clo h'.fst).antisymm (h'.min g h.clo h.fst)
end
section
variable {m m' : Nat} {l l' : List St3}
theorem keep_ne {f : Nat → Nat} {x y : Nat} (h : keepN l m' l' f x y = true) {z : St3} (hz : z ∈ l) (hx : z.1 = (x : Int)) : f z.2.2.toNat &&& comesN m' l' (2 ^ y) z.2.1 ≠ 0 := by
  unfold keepN at h
  rw [Bool.not_eq_true', Bool.eq_false_iff] at h
  intro h0
  refine h (List.any_eq_true.2 ⟨z, hz, ?_⟩)
  unfold badK
  rw [decide_eq_true hx, Nat.and_comm, decide_eq_true h0]; rfl
theorem keep_iff {f : Nat → Nat} {x y : Nat} : keepN l m' l' f x y = true ↔ ∀ z ∈ l, z.1 = (x : Int) → f z.2.2.toNat &&& comesN m' l' (2 ^ y) z.2.1 ≠ 0 := by
  refine ⟨fun h z hz hx => keep_ne h hz hx, fun h => ?_⟩
  unfold keepN
  rw [Bool.not_eq_true', Bool.eq_false_iff]
  intro ha
  obtain ⟨z, hz, hb⟩ := List.any_eq_true.1 ha
  unfold badK at hb
  simp only [Bool.and_eq_true, decide_eq_true_eq] at hb
  refine h z hz hb.1 ?_
  rw [Nat.and_comm]; exact hb.2
theorem keep_mono {f g : Nat → Nat} {x y : Nat} (h : subF f g) (hk : keepN l m' l' f x y = true) : keepN l m' l' g x y = true := by
  rw [keep_iff] at hk ⊢
  intro z hz hx h0
  refine hk z hz hx ?_
  refine Nat.eq_of_testBit_eq fun b => ?_
  have hb : (g z.2.2.toNat &&& comesN (m' : Int) l' (2 ^ y) z.2.1).testBit b = false := by rw [h0]; exact Nat.zero_testBit b
  rw [Nat.testBit_and] at hb
  rw [Nat.testBit_and, Nat.zero_testBit]
  cases hf : (f z.2.2.toNat).testBit b with
  | false => rfl
  | true => rw [(h _).test hf] at hb; exact hb
theorem bestF_max (S : Sys m l) (S' : Sys m' l') {p : Nat → Nat} (hp : isPf (keepN l m' l') m p) (hall : subF p (allF m m')) : subF p (bestF m l m' l') :=
  itr_sub (K := keepN l m' l') (fun f g x y h hk => keep_mono h hk) hp _ (lt2 S'.le allF_inB) hall
end
end Go.Am

set_option maxRecDepth 100000
set_option linter.unusedVariables false
set_option linter.unusedSimpArgs false
set_option linter.unusedSectionVars false
namespace Go.Am
open Go
section
variable {m m' : Nat} {l l' : List St3}
end
end Go.Am

set_option maxRecDepth 100000
set_option linter.unusedVariables false
set_option linter.unusedSimpArgs false
set_option linter.unusedSectionVars false
namespace Go.Am
open Go
def Suc (l : List St3) (m' : Nat) (l' : List St3) (r s : Nat → Nat) (a b : Nat) : Prop := ∀ z : St3, z ∈ l → z.1 = (a : Int) → mem2 s z.2.2.toNat (nx m' l' r b z)
theorem Suc.mono {l : List St3} {m' : Nat} {l' : List St3} {r s t : Nat → Nat} {a b : Nat} (h : Suc l m' l' r s a b) (hs : subF s t) : Suc l m' l' r t a b := fun z hz hx => subF_mem hs (h z hz hx)
structure Ex (l : List St3) (m' : Nat) (l' : List St3) (r o s : Nat → Nat) : Prop where
  sub : subF o s
  clo : ∀ a b, mem2 s a b → mem2 o a b ∨ Suc l m' l' r s a b
  min : ∀ h, Clo m' l' r l h → subF o h → subF s h
  lt : ∀ i, s i < 2 ^ m'
structure Dfs (l : List St3) (m' : Nat) (l' : List St3) (r : Nat → Nat) (x y : Nat) (o s : Nat → Nat) : Prop where
  sub : subF o s
  has : mem2 s x y
  clo : ∀ a b, mem2 s a b → mem2 o a b ∨ Suc l m' l' r s a b
  min : ∀ h, Clo m' l' r l h → subF o h → mem2 h x y → subF s h
  lt : ∀ i, s i < 2 ^ m'
section
variable {m m' : Nat} {l l' : List St3}
end
end Go.Am

set_option maxRecDepth 100000
set_option linter.unusedVariables false
set_option linter.unusedSimpArgs false
set_option linter.unusedSectionVars false
namespace Go.Am
open Go
abbrev cSy : Cod (Int × List D) := cG (lc (cI .i64) (l1 (cL 3)))
def eSy (s : Int × List St3) : D := .agg [.int .i64 s.1, .list 3 (eSt s.2)]
def okSy (s : Int × List St3) : Bool := !decide ((100 : Int) < s.2.length) && vSys s.1 s.2
theorem R42_eq (ss : List (Int × List St3)) (hs : ss.length < Lg) (hl : ∀ s ∈ ss, s.2.length < Lg) : R42 Ar.std (ss.map eSy) = some (ss.all okSy) := by
  have key := iter_any (step := R42L0 Ar.std (ss.map eSy)) ss (fun s => !okSy s) (.inr ()) (.inl ()) (fun i s hi hlt => by
    have hget : gt Ar.std cSy (ss.map eSy) (i : Int) = some (s.1, eSt s.2) := by
      rw [gt_at hi]; rfl
    have hz : Ar.std.zlt (i : Int) (Ar.std.len (ss.map eSy)) = true := by rw [std_len, List.length_map]; exact ltN hlt
    unfold R42L0
    rw [hz, cond_true, hget, bsome]
    dsimp only
    rw [R16_eq, bsome, R34_eq s.1 s.2 (hl s (List.mem_of_getElem? hi)), bsome, inc hlt hs]
    unfold okSy
    cases decide ((100 : Int) < s.2.length) <;> cases vSys s.1 s.2 <;> rfl) (by
    unfold R42L0
    rw [std_len, List.length_map, geN, cond_false])
  unfold R42
  rw [key, bsome, any_notB]
  cases ss.all okSy <;> rfl
theorem stepN_has {l : List St3} (hl : SOk l) {s : Nat} {z : St3} (hz : z ∈ l) (hs : s.testBit z.1.toNat = true) : (stepN l s z.2.1).testBit z.2.2.toNat = true := by
  rw [stepN_test, List.any_eq_true]
  refine ⟨z, hz, ?_⟩
  unfold goes
  rw [decide_eq_true rfl, hs, decide_eq_true rfl]; rfl
theorem quiet_sub (m : Nat) (l : List St3) (s : Nat) : Wi s (quietN m l s) := by rw [quietN_nat]; exact hids_sub l m s
theorem comes_has {m : Nat} {l : List St3} (S : Sys m l) {s : Nat} {z : St3} (hz : z ∈ l) (hs : s.testBit z.1.toNat = true) : (comesN m l s z.2.1).testBit z.2.2.toNat = true := by
  unfold comesN
  by_cases h0 : z.2.1 = 0
  · rw [decide_eq_true h0, cond_true, quietN_nat]
    obtain ⟨k, hk⟩ : ∃ k, m = k + 1 := ⟨m - 1, by have := S.pos; omega⟩
    rw [hk]
    refine (hids_sub l k (hid l s)).test ?_
    unfold hid
    rw [Nat.testBit_or, ← h0, stepN_has S.ok hz hs, Bool.or_true]
  · rw [decide_eq_false h0, cond_false]
    exact (quiet_sub m l _).test (stepN_has S.ok hz ((quiet_sub m l s).test hs))
theorem and_ne {a b z : Nat} (ha : a.testBit z = true) (hb : b.testBit z = true) : a &&& b ≠ 0 := by
  intro h
  have : (a &&& b).testBit z = true := by rw [Nat.testBit_and, ha, hb]; rfl
  rw [h] at this; simp at this
end Go.Am

set_option maxRecDepth 100000
set_option linter.unusedVariables false
set_option linter.unusedSimpArgs false
set_option linter.unusedSectionVars false
namespace Go.Am
open Go
theorem and2 {x y : Bool} (h : (x && y) = true) : x = true ∧ y = true := by cases x <;> cases y <;> first | exact ⟨rfl, rfl⟩ | cases h
theorem okSy_v {s : Int × List St3} (h : okSy s = true) : vSys s.1 s.2 = true := (and2 h).2
end Go.Am

set_option maxRecDepth 100000
set_option linter.unusedVariables false
set_option linter.unusedSimpArgs false
set_option linter.unusedSectionVars false
namespace Go.Am
open Go
def Cov (g : Nat → Nat) (s t : Nat) : Prop := ∀ y, s.testBit y = true → ∃ w, t.testBit w = true ∧ mem2 g y w
theorem Cov.mono {g : Nat → Nat} {s t u : Nat} (h : Cov g s t) (hu : Wi t u) : Cov g s u := fun y hy => by
  obtain ⟨w, h1, h2⟩ := h y hy
  exact ⟨w, hu.test h1, h2⟩
theorem Cov.or {g : Nat → Nat} {a b t : Nat} (h : Cov g a t) (h' : Cov g b t) : Cov g (a ||| b) t := fun y hy => by
  rw [Nat.testBit_or, Bool.or_eq_true] at hy
  rcases hy with h1 | h1
  · exact h y h1
  · exact h' y h1
section
variable {m m' : Nat} {l l' : List St3} (S : Sys m l) (S' : Sys m' l') {g : Nat → Nat} (hg : ∀ x y, mem2 g x y → keepN l m' l' g x y = true)
include S S' hg
end
end Go.Am

set_option maxRecDepth 100000
set_option linter.unusedVariables false
set_option linter.unusedSimpArgs false
set_option linter.unusedSectionVars false
namespace Go.Am
open Go
theorem rfn_of {n n' : Int} {l l' : List St3} {m m' : Nat} (hn : n = m) (hn' : n' = m') (hv : vSys n l = true) (hv' : vSys n' l' = true) : rfn n l n' l' = ((bestF m l m' l' 0).testBit 0, 0) := by
  subst hn; subst hn'
  unfold rfn
  rw [hv, hv', Bool.and_self, cond_true, Int.toNat_natCast, Int.toNat_natCast]
theorem sub_all {m m' : Nat} {f : Nat → Nat} (h : ∀ i, m ≤ i → f i = 0) (hB : ∀ i, f i < 2 ^ m') : subF f (allF m m') := subF_of fun x y hxy => by
  have hx : x < m := by
    rcases Nat.lt_or_ge x m with h1 | h1
    · exact h1
    · unfold mem2 at hxy
      rw [h x h1] at hxy; simp at hxy
  have hy : y < m' := by
    rcases Nat.lt_or_ge y m' with h1 | h1
    · exact h1
    · unfold mem2 at hxy
      rw [Nat.testBit_lt_two_pow (Nat.lt_of_lt_of_le (hB x) (Nat.pow_le_pow_right (by decide) h1))] at hxy; cases hxy
  unfold mem2 allF
  rw [if_pos hx, Nat.testBit_two_pow_sub_one]; exact decide_eq_true hy
theorem ref_of {m m' : Nat} {l l' : List St3} (S : Sys m l) (S' : Sys m' l') {f : Nat → Nat} (h : ∀ i, m ≤ i → f i = 0) (hB : ∀ i, f i < 2 ^ m') (hp : ∀ x y, mem2 f x y → keepN l m' l' f x y = true) (h0 : mem2 f 0 0) : mem2 (bestF m l m' l') 0 0 :=
  subF_mem (bestF_max S S' (fun x _ y hy => hp x y (mem_bl.1 hy).2) (sub_all h hB)) h0
end Go.Am

set_option maxRecDepth 100000
set_option linter.unusedVariables false
set_option linter.unusedSimpArgs false
set_option linter.unusedSectionVars false
namespace Go.Am
open Go
section
variable {m m' : Nat} {l l' : List St3} (S : Sys m l) (S' : Sys m' l')
end
section
variable {m : Nat} {l : List St3} (S : Sys m l) (hp : plainD l = true)
include hp
end
end Go.Am

set_option maxRecDepth 100000
set_option linter.unusedVariables false
set_option linter.unusedSimpArgs false
set_option linter.unusedSectionVars false
namespace Go.Am
open Go
end Go.Am

set_option maxRecDepth 100000
set_option linter.unusedVariables false
set_option linter.unusedSimpArgs false
set_option linter.unusedSectionVars false
namespace Go.Am
open Go
theorem any_idx {n : Nat} {p : Nat → Bool} (h : ∀ i, i < n → p i = false) : (List.range n).any p = false := by
  rw [Bool.eq_false_iff]
  intro h2
  obtain ⟨i, hi, hb⟩ := List.any_eq_true.1 h2
  rw [h i (List.mem_range.1 hi)] at hb; cases hb
theorem goodSys_of {m : Int} {l : List St3} (h : ∀ x ∈ l, stOk m x = true) (hn : l.Nodup) : goodSys m l = true := by
  unfold goodSys
  rw [any_idx fun i hi => ?_]; rfl
  rw [badSt_get (List.getElem?_eq_getElem hi), h _ (List.getElem_mem hi), Bool.not_true, Bool.false_or, Bool.eq_false_iff]
  intro hc
  rw [List.contains_iff_mem] at hc
  obtain ⟨j, hj, e⟩ := List.getElem_of_mem hc
  rw [List.length_take] at hj
  rw [List.getElem_take] at e
  have := List.pairwise_iff_getElem.1 hn j i (by omega) hi (by omega)
  exact this e
def Dn (i a : Nat) (i' : Nat) (lab : Int) : Prop := i' < i ∨ (i' = i ∧ lab ≤ a)
structure SI (F : Nat → Int → Nat) (i a : Nat) (s : SeeS) : Prop where
  nd : s.1.Nodup
  ne : ∀ x ∈ s.1, x ≠ 0
  st : ∀ z ∈ s.2, ∃ (i' j : Nat) (lab : Int), z = ((i' : Int), lab, (j : Int)) ∧ i' < s.1.length ∧ j < s.1.length ∧ (1 ≤ lab ∧ lab ≤ 3) ∧ s.1[j]? = some (F (s.1.getD i' 0) lab) ∧ Dn i a i' lab
  cmp : ∀ (i' : Nat) (lab : Int), Dn i a i' lab → i' < s.1.length → 1 ≤ lab → lab ≤ 3 → F (s.1.getD i' 0) lab ≠ 0 → ∃ j : Nat, j < s.1.length ∧ ((i' : Int), lab, (j : Int)) ∈ s.2
  un : s.2.Pairwise fun y z => ¬ (y.1 = z.1 ∧ y.2.1 = z.2.1)
theorem getD_app {l : List Nat} {i : Nat} (h : i < l.length) (m : List Nat) : (l ++ m).getD i 0 = l.getD i 0 := by
  rw [List.getD_eq_getElem?_getD, List.getD_eq_getElem?_getD, List.getElem?_append_left h]
theorem SI.step {n : Int} {l : List St3} {i a : Nat} {s : SeeS} (h : SI (comesN n l) i a s) (hi : i < s.1.length) (ha : a < 3) : SI (comesN n l) i (a + 1) (seeL n l i s ((a + 1 : Nat) : Int)) := by
  have hD : ∀ i' (lab : Int), Dn i (a + 1) i' lab ↔ Dn i a i' lab ∨ (i' = i ∧ lab = ((a + 1 : Nat) : Int)) := fun i' lab => by unfold Dn; omega
  
  have grow : ∀ (m : List Nat) (j : Nat), (s.1 ++ m).Nodup → (∀ x ∈ m, x ≠ 0) → j < (s.1 ++ m).length → (s.1 ++ m)[j]? = some (comesN n l (s.1.getD i 0) ((a + 1 : Nat) : Int)) →
      SI (comesN n l) i (a + 1) (s.1 ++ m, s.2 ++ [((i : Int), ((a + 1 : Nat) : Int), (j : Int))]) := fun m j hnd hne hj hx => by
    have hlen : (s.1 ++ m).length = s.1.length + m.length := List.length_append
    refine ⟨hnd, fun x hx => ?_, fun z hz => ?_, fun i' lab hd hi' h1 h2 h3 => ?_, ?_⟩
    · rcases List.mem_append.1 hx with hx | hx
      · exact h.ne x hx
      · exact hne x hx
    · rcases List.mem_append.1 hz with hz | hz
      · obtain ⟨i', j', lab, rfl, b1, b2, b3, b4, b5⟩ := h.st z hz
        refine ⟨i', j', lab, rfl, ?_, ?_, b3, ?_, (hD _ _).2 (.inl b5)⟩
        · show i' < (s.1 ++ m).length; omega
        · show j' < (s.1 ++ m).length; omega
        · show (s.1 ++ m)[j']? = some (comesN n l ((s.1 ++ m).getD i' 0) lab)
          rw [getD_app b1, List.getElem?_append_left b2]; exact b4
      · rw [List.mem_singleton] at hz; subst hz
        refine ⟨i, j, _, rfl, ?_, hj, by omega, ?_, (hD _ _).2 (.inr ⟨rfl, rfl⟩)⟩
        · show i < (s.1 ++ m).length; omega
        · show (s.1 ++ m)[j]? = some (comesN n l ((s.1 ++ m).getD i 0) _)
          rw [getD_app hi]; exact hx
    · rcases (hD _ _).1 hd with hd | ⟨rfl, rfl⟩
      · have hi2 : i' < s.1.length := by
          rcases hd with hd | hd
          · omega
          · omega
        have h3' : comesN n l (s.1.getD i' 0) lab ≠ 0 := by rw [← getD_app hi2 m]; exact h3
        obtain ⟨j', c1, c2⟩ := h.cmp i' lab hd hi2 h1 h2 h3'
        exact ⟨j', by show j' < (s.1 ++ m).length; omega, List.mem_append.2 (.inl c2)⟩
      · exact ⟨j, hj, List.mem_append.2 (.inr (List.mem_singleton.2 rfl))⟩
    · refine List.pairwise_append.2 ⟨h.un, List.pairwise_singleton _ _, fun y hy z hz => ?_⟩
      rw [List.mem_singleton] at hz; subst hz
      obtain ⟨i', j', lab, rfl, _, _, _, _, b5⟩ := h.st y hy
      rintro ⟨e1, e2⟩
      simp only at e1 e2
      rcases b5 with b5 | b5
      · omega
      · omega
  unfold seeL
  cases h1 : decide (comesN n l (s.1.getD i 0) ((a + 1 : Nat) : Int) = 0) with
  | true =>
    rw [cond_true]
    refine ⟨h.nd, h.ne, fun z hz => ?_, fun i' lab hd hi' c1 c2 c3 => ?_, h.un⟩
    · obtain ⟨i', j', lab, e, b1, b2, b3, b4, b5⟩ := h.st z hz
      exact ⟨i', j', lab, e, b1, b2, b3, b4, (hD _ _).2 (.inl b5)⟩
    · rcases (hD _ _).1 hd with hd | ⟨rfl, rfl⟩
      · exact h.cmp i' lab hd hi' c1 c2 c3
      · exact absurd (of_decide_eq_true h1) c3
  | false =>
    rw [cond_false]
    have hx0 := of_decide_eq_false h1
    cases hf : s.1.findIdx? (fun y => decide (comesN n l (s.1.getD i 0) ((a + 1 : Nat) : Int) = y)) with
    | some k =>
      obtain ⟨hk, hp, _⟩ := List.findIdx?_eq_some_iff_getElem.1 hf
      have hk2 : s.1[k]? = some (comesN n l (s.1.getD i 0) ((a + 1 : Nat) : Int)) := by rw [List.getElem?_eq_getElem hk, of_decide_eq_true hp]
      have := grow [] k (by rw [List.append_nil]; exact h.nd) (fun x hx => by cases hx) (by rw [List.append_nil]; exact hk) (by rw [List.append_nil]; exact hk2)
      rw [List.append_nil] at this
      exact this
    | none =>
      rw [List.findIdx?_eq_none_iff] at hf
      have hn : comesN n l (s.1.getD i 0) ((a + 1 : Nat) : Int) ∉ s.1 := fun hm => by have := hf _ hm; simp at this
      refine grow [comesN n l (s.1.getD i 0) ((a + 1 : Nat) : Int)] s.1.length ?_ (fun x hx => by rw [List.mem_singleton] at hx; subst hx; exact hx0) (by simp) (by simp)
      refine List.nodup_append.2 ⟨h.nd, by simp, fun x hx y hy => ?_⟩
      rw [List.mem_singleton] at hy; subst hy
      rintro rfl; exact hn hx
theorem seeL_pre (n : Int) (l : List St3) (i : Nat) (s : SeeS) (lab : Int) : s.1 <+: (seeL n l i s lab).1 := by
  unfold seeL
  cases decide (comesN n l (s.1.getD i 0) lab = 0) with
  | true => exact List.prefix_refl _
  | false =>
    rw [cond_false]
    cases s.1.findIdx? (fun y => decide (comesN n l (s.1.getD i 0) lab = y)) with
    | none => exact List.prefix_append _ _
    | some k => exact List.prefix_refl _
theorem SI.round {n : Int} {l : List St3} {i : Nat} {s : SeeS} (h : SI (comesN n l) i 0 s) (hi : i < s.1.length) : SI (comesN n l) (i + 1) 0 (seeR n l i s) := by
  have h1 := h.step hi (by decide)
  have i1 : i < (seeL n l i s 1).1.length := Nat.lt_of_lt_of_le hi (seeL_pre n l i s 1).length_le
  have h2 := h1.step i1 (by decide)
  have i2 : i < (seeL n l i (seeL n l i s 1) 2).1.length := Nat.lt_of_lt_of_le i1 (seeL_pre n l i _ 2).length_le
  have h3 := h2.step i2 (by decide)
  have e : seeR n l i s = seeL n l i (seeL n l i (seeL n l i s ((0 + 1 : Nat) : Int)) ((0 + 1 + 1 : Nat) : Int)) ((0 + 1 + 1 + 1 : Nat) : Int) := rfl
  rw [e]
  have hD : ∀ i' (lab : Int), 1 ≤ lab → lab ≤ 3 → (Dn (i + 1) 0 i' lab ↔ Dn i 3 i' lab) := fun i' lab a b => by unfold Dn; omega
  refine ⟨h3.nd, h3.ne, fun z hz => ?_, fun i' lab hd hi' c1 c2 c3 => h3.cmp i' lab ((hD _ _ c1 c2).1 hd) hi' c1 c2 c3, h3.un⟩
  obtain ⟨i', j', lab, e, b1, b2, b3, b4, b5⟩ := h3.st z hz
  exact ⟨i', j', lab, e, b1, b2, b3, b4, (hD _ _ b3.1 b3.2).2 b5⟩
structure FinS (m : Nat) (l : List St3) (k : Nat) (L : List Nat) (st : List St3) : Prop where
  len : L.length = k
  pos : 1 ≤ k
  hd : L[0]? = some (quietN m l 1)
  nd : L.Nodup
  ne : ∀ x ∈ L, x ≠ 0
  lt : ∀ x ∈ L, x < 2 ^ m
  sp : ∀ z ∈ st, ∃ (i j : Nat) (lab : Int), z = ((i : Int), lab, (j : Int)) ∧ i < k ∧ j < k ∧ (1 ≤ lab ∧ lab ≤ 3) ∧ L[j]? = some (comesN m l (L.getD i 0) lab)
  cmp : ∀ (i : Nat) (lab : Int), i < k → 1 ≤ lab → lab ≤ 3 → comesN m l (L.getD i 0) lab ≠ 0 → ∃ j : Nat, j < k ∧ ((i : Int), lab, (j : Int)) ∈ st
  un : st.Pairwise fun y z => ¬ (y.1 = z.1 ∧ y.2.1 = z.2.1)
  cnt : st.length ≤ 3 * k
section
variable {m : Nat} {l : List St3} {k : Nat} {L : List Nat} {st : List St3} (S : Sys m l) (h : FinS m l k L st) (hk : k ≤ 6)
include h hk
end
end Go.Am

set_option maxRecDepth 100000
set_option linter.unusedVariables false
set_option linter.unusedSimpArgs false
set_option linter.unusedSectionVars false
namespace Go.Am
open Go
section
variable {m : Nat} {l : List St3} {k : Nat} {L : List Nat} {st : List St3} (h : FinS m l k L st) (hk : k ≤ 6)
include h hk
end
end Go.Am

set_option maxRecDepth 100000
set_option linter.unusedVariables false
set_option linter.unusedSimpArgs false
set_option linter.unusedSectionVars false
namespace Go.Am
open Go
theorem stOk_iff {m : Int} {x : St3} : stOk m x = true ↔ (0 ≤ x.1 ∧ x.1 ≤ m) ∧ (0 ≤ x.2.2 ∧ x.2.2 ≤ m) ∧ (0 ≤ x.2.1 ∧ x.2.1 ≤ 3) := by
  unfold stOk
  simp only [Bool.and_eq_true, btw_true]
theorem vSys_st {n : Int} {l : List St3} (hv : vSys n l = true) : (1 ≤ n ∧ n ≤ 6) ∧ l.length ≤ 24 ∧ l.Nodup ∧ ∀ x ∈ l, stOk (n - 1) x = true := by
  unfold vSys at hv
  simp only [Bool.and_eq_true, btw_true, decide_eq_true_eq] at hv
  obtain ⟨⟨h1, h2⟩, h3⟩ := hv
  unfold goodSys at h3
  rw [Bool.not_eq_true', List.any_eq_false] at h3
  have hat : ∀ (i : Nat) (x : St3), l[i]? = some x → stOk (n - 1) x = true ∧ x ∉ l.take i := fun i x hx => by
    have hi : i < l.length := (List.getElem?_eq_some_iff.1 hx).1
    have := h3 i (List.mem_range.2 hi)
    unfold badSt at this
    rw [hx] at this
    simpa [Bool.or_eq_true] using this
  refine ⟨h1, by omega, ?_, fun x hx => ?_⟩
  · unfold List.Nodup
    rw [List.pairwise_iff_getElem]
    intro i j hi hj hij e
    refine (hat j _ (List.getElem?_eq_getElem hj)).2 ?_
    rw [← e]
    have : l[i] = (l.take j)[i]'(by simp; omega) := by rw [List.getElem_take]
    rw [this]; exact List.getElem_mem _
  · obtain ⟨i, hi, rfl⟩ := List.getElem_of_mem hx
    exact (hat i _ (List.getElem?_eq_getElem hi)).1
theorem vSys_of {n : Int} {l : List St3} (h1 : 1 ≤ n ∧ n ≤ 6) (h2 : l.length ≤ 24) (h3 : l.Nodup) (h4 : ∀ x ∈ l, stOk (n - 1) x = true) : vSys n l = true := by
  unfold vSys
  rw [goodSys_of h4 h3, Bool.and_true, Bool.and_eq_true, btw_true, decide_eq_true_eq]
  exact ⟨h1, by omega⟩
theorem Sys.same {n : Int} {l : List St3} {m : Nat} (hn : n = m) (hv : vSys n l = true) : Sys m l := by
  obtain ⟨k, hk, S⟩ := Sys.of hv
  have : k = m := by omega
  subst this; exact S
theorem Wi.of {a b : Nat} (h : ∀ j, a.testBit j = true → b.testBit j = true) : Wi a b := by
  unfold Wi
  apply Nat.eq_of_testBit_eq
  intro j
  rw [Nat.testBit_or]
  cases hb : b.testBit j with
  | true => rw [Bool.or_true]
  | false =>
    cases ha : a.testBit j with
    | true => rw [h j ha] at hb; cases hb
    | false => rfl
end Go.Am

set_option maxRecDepth 100000
set_option linter.unusedVariables false
set_option linter.unusedSimpArgs false
set_option linter.unusedSectionVars false
namespace Go.Am
open Go
theorem R89_eq (out : List St3) (ho : out.length < Lg) (z : St3) : R89 Ar.std (eSt out) z.1 z.2.1 z.2.2 = some (out.contains z) := by
  have key := iter_find (step := R109L0 Ar.std (eSt out) z.1 z.2.1 z.2.2) out (fun y => decide (z = y)) (fun i => .inr (i : Int)) (.inl ()) (fun i y hy hi => by
      unfold R109L0
      try dsimp only
      rw [ltS hi, cond_true, gt_enc hy, bsome]
      try dsimp only
      rw [deq_st z y, inc hi ho]
      cases decide (z = y) <;> rfl) (by
      unfold R109L0
      try dsimp only
      rw [geS, cond_false])
  have hany : out.any (fun y => decide (z = y)) = out.contains z := by
    rw [Bool.eq_iff_iff, List.any_eq_true, List.contains_iff_mem]
    exact ⟨fun ⟨y, hy, e⟩ => by rw [of_decide_eq_true e]; exact hy, fun h => ⟨z, h, decide_eq_true rfl⟩⟩
  unfold R89 R109
  rw [key, bsome]
  have h := find_le out (fun y => decide (z = y))
  rw [hany] at h
  rw [← h]
  cases out.findIdx? (fun y => decide (z = y)) <;> rfl
theorem scalSt (l : List St3) : scalars (eSt l) = true := by
  simp only [scalars, eSt, enc, List.all_map, List.all_eq_true]
  intro c _
  rfl
end Go.Am

set_option maxRecDepth 100000
set_option linter.unusedVariables false
set_option linter.unusedSimpArgs false
set_option linter.unusedSectionVars false
namespace Go.Am
open Go
end Go.Am

set_option maxRecDepth 100000
set_option linter.unusedVariables false
set_option linter.unusedSimpArgs false
set_option linter.unusedSectionVars false
namespace Go.Am
open Go
section
variable {m m' m2 : Nat} {l l' l2 : List St3} (S : Sys m l) (S' : Sys m' l') (S2 : Sys m2 l2)
include S S' S2
end
end Go.Am

set_option maxRecDepth 100000
set_option linter.unusedVariables false
set_option linter.unusedSimpArgs false
set_option linter.unusedSectionVars false
namespace Go.Am
open Go
end Go.Am

set_option maxRecDepth 100000
set_option linter.unusedVariables false
set_option linter.unusedSimpArgs false
set_option linter.unusedSectionVars false
namespace Go.Am
open Go
def addS (out : List St3) (z : St3) : List St3 := bif out.contains z then out else out ++ [z]
def addIf {α : Type} (c : α → Bool) (p : α → St3) (out : List St3) (l : List α) : List St3 := l.foldl (fun out a => bif c a then addS out (p a) else out) out
theorem addS_mem {out : List St3} {z y : St3} : y ∈ addS out z ↔ y ∈ out ∨ y = z := by
  unfold addS
  cases hc : out.contains z with
  | true =>
    rw [cond_true]
    exact ⟨.inl, fun h => h.elim id fun e => by subst e; exact List.contains_iff_mem.1 hc⟩
  | false => rw [cond_false]; simp
theorem addS_nodup {out : List St3} (z : St3) (h : out.Nodup) : (addS out z).Nodup := by
  unfold addS
  cases hc : out.contains z with
  | true => exact h
  | false =>
    rw [cond_false, List.nodup_append]
    refine ⟨h, by simp, fun a ha b hb e => ?_⟩
    rw [List.mem_singleton] at hb
    subst hb; subst e
    rw [List.contains_iff_mem.2 ha] at hc; cases hc
theorem addS_len (out : List St3) (z : St3) : (addS out z).length ≤ out.length + 1 := by unfold addS; cases out.contains z <;> simp
section
variable {α : Type} {c : α → Bool} {p : α → St3}
theorem addIf_mem : ∀ {l : List α} {out : List St3} {y : St3}, y ∈ addIf c p out l ↔ y ∈ out ∨ ∃ a ∈ l, c a = true ∧ y = p a
  | [], out, y => by simp [addIf]
  | a :: l, out, y => by
    have ih := addIf_mem (l := l) (out := bif c a then addS out (p a) else out) (y := y)
    unfold addIf at ih ⊢
    rw [List.foldl_cons, ih]
    constructor
    · rintro (h | ⟨b, hb, h⟩)
      · cases hc : c a with
        | true =>
          rw [hc, cond_true, addS_mem] at h
          rcases h with h | h
          · exact .inl h
          · exact .inr ⟨a, by simp, hc, h⟩
        | false => rw [hc, cond_false] at h; exact .inl h
      · exact .inr ⟨b, by simp [hb], h⟩
    · rintro (h | ⟨b, hb, hc, h⟩)
      · left
        cases c a with
        | true => rw [cond_true, addS_mem]; exact .inl h
        | false => exact h
      · rcases List.mem_cons.1 hb with rfl | hb
        · left; rw [hc, cond_true, addS_mem]; exact .inr h
        · exact .inr ⟨b, hb, hc, h⟩
theorem addIf_nodup : ∀ {l : List α} {out : List St3}, out.Nodup → (addIf c p out l).Nodup
  | [], out, h => h
  | a :: l, out, h => by
    have ih := addIf_nodup (l := l) (out := bif c a then addS out (p a) else out) (by cases c a with | true => exact addS_nodup _ h | false => exact h)
    exact ih
theorem addIf_len : ∀ {l : List α} {out : List St3}, (addIf c p out l).length ≤ out.length + l.length
  | [], out => by simp [addIf]
  | a :: l, out => by
    have ih := addIf_len (l := l) (out := bif c a then addS out (p a) else out)
    have : (bif c a then addS out (p a) else out).length ≤ out.length + 1 := by
      cases c a with
      | true => exact addS_len _ _
      | false => simp
    unfold addIf at ih ⊢
    rw [List.foldl_cons]; simp only [List.length_cons]; omega
theorem addIf_snoc {l : List α} {out : List St3} {a : α} : addIf c p out (l ++ [a]) = bif c a then addS (addIf c p out l) (p a) else addIf c p out l := by simp [addIf, List.foldl_append]
end
def bothA (n : Int) (x y : St3) : St3 := (x.1 * n + y.1, x.2.1, x.2.2 * n + y.2.2)
def bothS (n : Int) (x : St3) (k : Nat) : St3 := (x.1 * n + k, 0, x.2.2 * n + k)
def bothT (n : Int) (y : St3) (i : Nat) : St3 := ((i : Int) * n + y.1, 0, (i : Int) * n + y.2.2)
def both0 (n : Int) (l' : List St3) (x : St3) (out : List St3) : List St3 := addIf (fun y => decide (x.2.1 = y.2.1) && !decide (x.2.1 = 0)) (bothA n x) out l'
def both1 (n : Nat) (x : St3) (out : List St3) : List St3 := addIf (fun _ => decide (x.2.1 = 0)) (bothS n x) out (List.range n)
def both2 (n : Nat) (l' : List St3) (out : List St3) (x : St3) : List St3 := both1 n x (both0 n l' x out)
def both3 (m : Nat) (n : Int) (out : List St3) (y : St3) : List St3 := addIf (fun _ => decide (y.2.1 = 0)) (bothT n y) out (List.range m)
def bothL (m : Nat) (l : List St3) (n : Nat) (l' : List St3) : List St3 := l'.foldl (both3 m n) (l.foldl (both2 n l') [])
theorem foldl_mem {α : Type} {f : List St3 → α → List St3} {g : α → St3 → Prop} (h : ∀ out a y, y ∈ f out a ↔ y ∈ out ∨ g a y) : ∀ (l : List α) (out : List St3) (y : St3), y ∈ l.foldl f out ↔ y ∈ out ∨ ∃ a ∈ l, g a y
  | [], out, y => by simp
  | a :: l, out, y => by
    rw [List.foldl_cons, foldl_mem h l, h]
    simp only [List.mem_cons, exists_eq_or_imp]
    exact or_assoc
theorem foldl_nodup {α : Type} {f : List St3 → α → List St3} (h : ∀ out a, out.Nodup → (f out a).Nodup) : ∀ (l : List α) (out : List St3), out.Nodup → (l.foldl f out).Nodup
  | [], _, ho => ho
  | a :: l, out, ho => by rw [List.foldl_cons]; exact foldl_nodup h l _ (h out a ho)
theorem foldl_len {α : Type} {f : List St3 → α → List St3} {q : Nat} (h : ∀ out a, (f out a).length ≤ out.length + q) : ∀ (l : List α) (out : List St3), (l.foldl f out).length ≤ out.length + l.length * q
  | [], out => by simp
  | a :: l, out => by
    rw [List.foldl_cons]
    have h1 := foldl_len h l (f out a)
    have h2 := h out a
    simp only [List.length_cons, Nat.add_mul, Nat.one_mul]; omega
inductive Tog (m : Nat) (l : List St3) (n : Nat) (l' : List St3) (z : St3) : Prop
  | both (x y : St3) (hx : x ∈ l) (hy : y ∈ l') (he : x.2.1 = y.2.1) (h0 : x.2.1 ≠ 0) (hz : z = bothA n x y)
  | one (x : St3) (k : Nat) (hx : x ∈ l) (h0 : x.2.1 = 0) (hk : k < n) (hz : z = bothS n x k)
  | two (y : St3) (i : Nat) (hy : y ∈ l') (h0 : y.2.1 = 0) (hi : i < m) (hz : z = bothT n y i)
theorem bothL_mem {m : Nat} {l : List St3} {n : Nat} {l' : List St3} {z : St3} : z ∈ bothL m l n l' ↔ Tog m l n l' z := by
  unfold bothL
  rw [foldl_mem (f := both3 m n) (g := fun y z => ∃ i ∈ List.range m, decide (y.2.1 = 0) = true ∧ z = bothT n y i) (fun out a y => addIf_mem),
    foldl_mem (f := both2 n l') (g := fun x z => (∃ y ∈ l', (decide (x.2.1 = y.2.1) && !decide (x.2.1 = 0)) = true ∧ z = bothA n x y) ∨ ∃ k ∈ List.range n, decide (x.2.1 = 0) = true ∧ z = bothS n x k) (fun out a y => by
      unfold both2 both1 both0
      rw [addIf_mem, addIf_mem, or_assoc])]
  constructor
  · rintro ((h | ⟨x, hx, ⟨y, hy, hc, hz⟩ | ⟨k, hk, hc, hz⟩⟩) | ⟨y, hy, i, hi, hc, hz⟩)
    · cases h
    · rw [Bool.and_eq_true, Bool.not_eq_true', decide_eq_true_eq, decide_eq_false_iff_not] at hc
      exact .both x y hx hy hc.1 hc.2 hz
    · exact .one x k hx (of_decide_eq_true hc) (List.mem_range.1 hk) hz
    · exact .two y i hy (of_decide_eq_true hc) (List.mem_range.1 hi) hz
  · rintro (⟨x, y, hx, hy, he, h0, hz⟩ | ⟨x, k, hx, h0, hk, hz⟩ | ⟨y, i, hy, h0, hi, hz⟩)
    · exact .inl (.inr ⟨x, hx, .inl ⟨y, hy, by rw [decide_eq_true he, decide_eq_false h0]; rfl, hz⟩⟩)
    · exact .inl (.inr ⟨x, hx, .inr ⟨k, List.mem_range.2 hk, decide_eq_true h0, hz⟩⟩)
    · exact .inr ⟨y, hy, i, List.mem_range.2 hi, decide_eq_true h0, hz⟩
theorem bothL_nodup (m : Nat) (l : List St3) (n : Nat) (l' : List St3) : (bothL m l n l').Nodup :=
  foldl_nodup (fun out a h => addIf_nodup h) l' _ (foldl_nodup (fun out a h => addIf_nodup (addIf_nodup h)) l [] .nil)
theorem both2_len (n : Nat) (l' : List St3) (out : List St3) (x : St3) : (both2 n l' out x).length ≤ out.length + (l'.length + n) := by
  unfold both2 both1 both0
  refine Nat.le_trans addIf_len ?_
  have := addIf_len (c := fun y : St3 => decide (x.2.1 = y.2.1) && !decide (x.2.1 = 0)) (p := bothA n x) (l := l') (out := out)
  simp only [List.length_range]; omega
theorem R102_eq {out : List St3} (ho : out.length < 4294967295) {i k j q : Int} {n : Int} (lab : Int) (x7 : List D) (x8 : Int) (h1 : 0 ≤ i ∧ i < 1000) (h2 : 0 ≤ k ∧ k < 1000) (h3 : 0 ≤ j ∧ j < 1000) (h4 : 0 ≤ q ∧ q < 1000) (hn : 0 ≤ n ∧ n < 1000) :
    R102 Ar.std i k lab j q n x7 x8 (eSt out) = some (eSt (addS out (i * n + k, lab, j * n + q))) := by
  have hin : 0 ≤ i * n ∧ i * n ≤ 1000000 := ⟨Int.mul_nonneg h1.1 hn.1, Int.le_trans (Int.mul_le_mul_of_nonneg_right (by omega : i ≤ 1000) hn.1) (by omega)⟩
  have hjn : 0 ≤ j * n ∧ j * n ≤ 1000000 := ⟨Int.mul_nonneg h3.1 hn.1, Int.le_trans (Int.mul_le_mul_of_nonneg_right (by omega : j ≤ 1000) hn.1) (by omega)⟩
  have e1 : Ar.std.wrp .i64 (Ar.std.zadd (Ar.std.wrp .i64 (Ar.std.zmul i n)) k) = i * n + k := by
    simp only [std_wrp, std_zadd, std_zmul]; rw [i64w (i * n) (by omega) (by omega), i64w _ (by omega) (by omega)]
  have e2 : Ar.std.wrp .i64 (Ar.std.zadd (Ar.std.wrp .i64 (Ar.std.zmul j n)) q) = j * n + q := by
    simp only [std_wrp, std_zadd, std_zmul]; rw [i64w (j * n) (by omega) (by omega), i64w _ (by omega) (by omega)]
  unfold R102
  rw [e1, e2, R89_eq out (Nat.lt_trans ho (by decide)) (i * n + k, lab, j * n + q), bsome]
  have hap : ap Ar.std (eSt out) [.agg [.int .i64 (i * n + k), .int .i64 lab, .int .i64 (j * n + q)]] = some (eSt (out ++ [(i * n + k, lab, j * n + q)])) := ap_enc1 rfl ho
  rw [hap]
  unfold addS
  cases out.contains (i * n + k, lab, j * n + q) <;> rfl
theorem both2_fold_len (n : Nat) (l' : List St3) : ∀ (l : List St3) (out : List St3), (l.foldl (both2 n l') out).length ≤ out.length + l.length * (l'.length + n) := foldl_len (fun out a => both2_len n l' out a)
section
variable {m n : Nat} {l l' : List St3} (S : Sys m l) (S' : Sys n l')
include S'
theorem R56L0_eq {x : St3} (hx : (0 ≤ x.1 ∧ x.1 < 6) ∧ (0 ≤ x.2.2 ∧ x.2.2 < 6) ∧ (0 ≤ x.2.1 ∧ x.2.1 ≤ 3)) (a : Int) {out : List St3} (ho : out.length + l'.length < 4294967295) :
    iter (R56L0 Ar.std a n (eSt l') x.1 x.2.1 x.2.2) (0, eSt out) = some (eSt (both0 n l' x out)) := by
  have hlg : l'.length < Lg := S'.ok.1
  have hn6 := S'.le
  have key := iter_pre (step := R56L0 Ar.std a n (eSt l') x.1 x.2.1 x.2.2) l' (fun pre => both0 n pre x out) (fun s k => ((k : Int), eSt s)) (fun s => eSt s)
    (fun i y hy hi => by
      have hle : (both0 n (l'.take i) x out).length < 4294967295 := Nat.lt_of_le_of_lt addIf_len (by simp; omega)
      have hyo := S'.ok.2 y (List.mem_of_getElem? hy)
      have hsn : both0 n (l'.take i ++ [y]) x out = bif (decide (x.2.1 = y.2.1) && !decide (x.2.1 = 0)) then addS (both0 n (l'.take i) x out) (bothA n x y) else both0 n (l'.take i) x out := addIf_snoc
      have h102 := R102_eq hle (n := n) x.2.1 (eSt l') (Ar.std.wrp .i64 (Ar.std.zmul a n)) (i := x.1) (k := y.1) (j := x.2.2) (q := y.2.2) (by omega) (by omega) (by omega) (by omega) (by omega)
      have hsel : (bif Ar.std.zeq x.2.1 y.2.1 then some (!Ar.std.zeq x.2.1 0) else some false : Option Bool) = some (decide (x.2.1 = y.2.1) && !decide (x.2.1 = 0)) := by
        rw [std_zeq, std_zeq]
        cases decide (x.2.1 = y.2.1) <;> rfl
      unfold R56L0
      try dsimp only
      rw [ltS hi, cond_true, gt_enc hy, bsome]
      try dsimp only
      rw [hsel, bsome, h102, inc hi hlg, hsn]
      cases (decide (x.2.1 = y.2.1) && !decide (x.2.1 = 0)) <;> rfl)
    (by
      unfold R56L0
      try dsimp only
      rw [geS, cond_false])
  exact key
theorem R56L1_eq {x : St3} (hx : (0 ≤ x.1 ∧ x.1 < 6) ∧ (0 ≤ x.2.2 ∧ x.2.2 < 6) ∧ (0 ≤ x.2.1 ∧ x.2.1 ≤ 3)) (a : Int) {out : List St3} (ho : out.length + n < 4294967295) :
    iter (R56L1 Ar.std a n (eSt l') x.1 x.2.1 x.2.2) (0, eSt out) = some (eSt (both1 n x out)) := by
  have hn6 := S'.le
  have key := iter_pre (step := R56L1 Ar.std a n (eSt l') x.1 x.2.1 x.2.2) (List.range n) (fun pre => addIf (fun _ => decide (x.2.1 = 0)) (bothS n x) out pre) (fun s k => ((k : Int), eSt s)) (fun s => eSt s)
    (fun i y hy hi => by
      have hin : i < n := by simpa using hi
      have hyi : y = i := by
        rw [List.getElem?_range hin] at hy
        exact (Option.some.inj hy).symm
      subst hyi
      have hle : (addIf (fun _ => decide (x.2.1 = 0)) (bothS n x) out ((List.range n).take y)).length < 4294967295 := Nat.lt_of_le_of_lt addIf_len (by simp; omega)
      have h102 := R102_eq hle (n := n) 0 (eSt l') (Ar.std.wrp .i64 (Ar.std.zmul a n)) (i := x.1) (k := (y : Int)) (j := x.2.2) (q := (y : Int)) (by omega) (by omega) (by omega) (by omega) (by omega)
      unfold R56L1
      try dsimp only
      rw [ltN hin, cond_true, std_zeq, h102, inc hin (Nat.lt_of_le_of_lt hn6 (by decide)), addIf_snoc]
      cases decide (x.2.1 = 0) <;> rfl)
    (by
      unfold R56L1
      try dsimp only
      rw [List.length_range, geN, cond_false])
  exact key
include S
theorem R56L2_eq (hl24 : l.length ≤ 24) (hl24' : l'.length ≤ 24) : iter (R56L2 Ar.std m (eSt l) n (eSt l')) (0, []) = some (eSt (l.foldl (both2 n l') [])) := by
  have hlg : l.length < Lg := S.ok.1
  have hn6 := S'.le
  have key := iter_pre (step := R56L2 Ar.std m (eSt l) n (eSt l')) l (fun pre => pre.foldl (both2 n l') []) (fun s k => ((k : Int), eSt s)) (fun s => eSt s)
    (fun i x hx hi => by
      have hxo := S.ok.2 x (List.mem_of_getElem? hx)
      have hle := both2_fold_len n l' (l.take i) []
      have hlt : (l.take i).length ≤ 24 := by simp; omega
      have hm : (l.take i).length * (l'.length + n) ≤ 24 * 30 := Nat.mul_le_mul hlt (by omega)
      have h0 : (both0 n l' x ((l.take i).foldl (both2 n l') [])).length ≤ ((l.take i).foldl (both2 n l') []).length + l'.length := addIf_len
      simp only [List.length_nil] at hle
      have e0 := R56L0_eq S' (l' := l') (n := n) hxo (m : Int) (out := (l.take i).foldl (both2 n l') []) (by omega)
      have e1 := R56L1_eq S' (l' := l') (n := n) hxo (m : Int) (out := both0 n l' x ((l.take i).foldl (both2 n l') [])) (by omega)
      unfold R56L2
      try dsimp only
      rw [ltS hi, cond_true, gt_enc hx, bsome]
      try dsimp only
      rw [e0, bsome, e1, bsome, inc hi hlg, List.foldl_append]
      rfl)
    (by
      unfold R56L2
      try dsimp only
      rw [geS, cond_false])
  exact key
theorem R56L3_eq {y : St3} (hy : (0 ≤ y.1 ∧ y.1 < 6) ∧ (0 ≤ y.2.2 ∧ y.2.2 < 6) ∧ (0 ≤ y.2.1 ∧ y.2.1 ≤ 3)) (hn6 : n ≤ 6) {out : List St3} (ho : out.length + m < 4294967295) :
    iter (R56L3 Ar.std m n (eSt l') y.1 y.2.1 y.2.2) (0, eSt out) = some (eSt (both3 m n out y)) := by
  have hm6 := S.le
  have key := iter_pre (step := R56L3 Ar.std m n (eSt l') y.1 y.2.1 y.2.2) (List.range m) (fun pre => addIf (fun _ => decide (y.2.1 = 0)) (bothT n y) out pre) (fun s k => ((k : Int), eSt s)) (fun s => eSt s)
    (fun i z hz hi => by
      have him : i < m := by simpa using hi
      have hzi : z = i := by
        rw [List.getElem?_range him] at hz
        exact (Option.some.inj hz).symm
      subst hzi
      have hle : (addIf (fun _ => decide (y.2.1 = 0)) (bothT n y) out ((List.range m).take z)).length < 4294967295 := Nat.lt_of_le_of_lt addIf_len (by simp; omega)
      have h102 := R102_eq hle (n := n) 0 (eSt l') (Ar.std.wrp .i64 (Ar.std.zmul m n)) (i := (z : Int)) (k := y.1) (j := (z : Int)) (q := y.2.2) (by omega) (by omega) (by omega) (by omega) (by omega)
      unfold R56L3
      try dsimp only
      rw [ltN him, cond_true, std_zeq, h102, inc him (Nat.lt_of_le_of_lt hm6 (by decide)), addIf_snoc]
      cases decide (y.2.1 = 0) <;> rfl)
    (by
      unfold R56L3
      try dsimp only
      rw [List.length_range, geN, cond_false])
  exact key
theorem R56L4_eq (hl24' : l'.length ≤ 24) {out : List St3} (ho : out.length ≤ 1000) : iter (R56L4 Ar.std m n (eSt l')) (0, eSt out) = some (eSt (l'.foldl (both3 m n) out)) := by
  have hlg : l'.length < Lg := S'.ok.1
  have hm6 := S.le
  have hn6 := S'.le
  have key := iter_pre (step := R56L4 Ar.std m n (eSt l')) l' (fun pre => pre.foldl (both3 m n) out) (fun s k => ((k : Int), eSt s)) (fun s => eSt s)
    (fun i y hy hi => by
      have hyo := S'.ok.2 y (List.mem_of_getElem? hy)
      have hle := foldl_len (f := both3 m n) (q := m) (fun o a => by unfold both3; exact Nat.le_trans addIf_len (by simp)) (l'.take i) out
      have hlt : (l'.take i).length ≤ 24 := by simp; omega
      have hm : (l'.take i).length * m ≤ 24 * 6 := Nat.mul_le_mul hlt hm6
      have e0 := R56L3_eq S S' hyo hn6 (out := (l'.take i).foldl (both3 m n) out) (by omega)
      unfold R56L4
      try dsimp only
      rw [ltS hi, cond_true, gt_enc hy, bsome]
      try dsimp only
      rw [e0, bsome, inc hi hlg, List.foldl_append]
      rfl)
    (by
      unfold R56L4
      try dsimp only
      rw [geS, cond_false])
  exact key
end
def cmpI (a b : Int) : Int := if a < b then -1 else if b < a then 1 else 0
def orL (l : List Int) : Int := (l.find? (fun x => !decide (x = 0))).getD 0
theorem R113_eq3 (a b c : Int) : R113 Ar.std [.int .i64 a, .int .i64 b, .int .i64 c] = some (orL [a, b, c]) := by
  have step : ∀ (i : Nat) (x : Int), ([a, b, c] : List Int)[i]? = some x → R113L0 Ar.std [.int .i64 a, .int .i64 b, .int .i64 c] (i : Int) = bif decide (x = 0) then some (.inl ((i + 1 : Nat) : Int)) else some (.inr (.inr x)) := by
    intro i x hx
    have hi : i < ([a, b, c] : List Int).length := (List.getElem?_eq_some_iff.1 hx).1
    have e : ([.int .i64 a, .int .i64 b, .int .i64 c] : List D) = eInt [a, b, c] := rfl
    unfold R113L0
    rw [e, eInt, ltS hi, cond_true, gt_enc hx, bsome, std_zeq, inc hi (by show 3 < 9223372036854775808; decide)]
  have last : R113L0 Ar.std [.int .i64 a, .int .i64 b, .int .i64 c] ((3 : Nat) : Int) = some (.inr (.inl ())) := by
    have e : ([.int .i64 a, .int .i64 b, .int .i64 c] : List D) = eInt [a, b, c] := rfl
    have h := geS (c := cI .i64) (l := [a, b, c])
    unfold R113L0
    rw [e, eInt]
    rw [show ((3 : Nat) : Int) = (([a, b, c] : List Int).length : Int) from rfl, h, cond_false]
  have s0 := step 0 a rfl
  have s1 := step 1 b rfl
  have s2 := step 2 c rfl
  unfold R113 orL
  have z : (0 : Int) = ((0 : Nat) : Int) := rfl
  rw [z]
  by_cases ha : a = 0
  · rw [decide_eq_true ha, cond_true] at s0
    rw [iter_inl s0]
    by_cases hb : b = 0
    · rw [decide_eq_true hb, cond_true] at s1
      rw [iter_inl s1]
      by_cases hc : c = 0
      · rw [decide_eq_true hc, cond_true] at s2
        rw [iter_inl s2, iter_inr last]; simp [ha, hb, hc]
      · rw [decide_eq_false hc, cond_false] at s2
        rw [iter_inr s2]; simp [ha, hb, hc]
    · rw [decide_eq_false hb, cond_false] at s1
      rw [iter_inr s1]; simp [ha, hb]
  · rw [decide_eq_false ha, cond_false] at s0
    rw [iter_inr s0]; simp [ha]
def cmpSt (x y : St3) : Int := orL [cmpI x.1 y.1, cmpI x.2.1 y.2.1, cmpI x.2.2 y.2.2]
theorem R104_eq (x y : St3) : R104 Ar.std x.1 x.2.1 x.2.2 y.1 y.2.1 y.2.2 = some (cmpSt x y) := by
  unfold R104
  rw [R114_eq, bsome, R114_eq, bsome, R114_eq, bsome, R113_eq3, bsome]; rfl
theorem cmpI_neg {a b : Int} : cmpI a b < 0 ↔ a < b := by
  unfold cmpI
  by_cases h1 : a < b
  · simp [h1]
  · by_cases h2 : b < a <;> simp [h1, h2]
theorem cmpI_zero {a b : Int} : cmpI a b = 0 ↔ a = b := by
  unfold cmpI
  by_cases h1 : a < b
  · simp [h1]; omega
  · by_cases h2 : b < a <;> simp [h1, h2] <;> omega
def ltSt (x y : St3) : Prop := x.1 < y.1 ∨ x.1 = y.1 ∧ (x.2.1 < y.2.1 ∨ x.2.1 = y.2.1 ∧ x.2.2 < y.2.2)
theorem orL_neg (a b c : Int) : orL [a, b, c] < 0 ↔ a < 0 ∨ a = 0 ∧ (b < 0 ∨ b = 0 ∧ c < 0) := by
  unfold orL
  by_cases ha : a = 0
  · by_cases hb : b = 0
    · by_cases hc : c = 0
      · simp [ha, hb, hc]
      · simp [ha, hb, hc]
    · simp [ha, hb]
  · simp [ha]
theorem cmpSt_neg {x y : St3} : cmpSt x y < 0 ↔ ltSt x y := by
  unfold cmpSt ltSt
  rw [orL_neg, cmpI_neg, cmpI_neg, cmpI_neg, cmpI_zero, cmpI_zero]
instance (x y : St3) : Decidable (ltSt x y) := by unfold ltSt; infer_instance
theorem ltSt_trans {x y z : St3} (h : ltSt x y) (h' : ltSt y z) : ltSt x z := by unfold ltSt at *; omega
theorem ltSt_irr {x : St3} : ¬ ltSt x x := by unfold ltSt; omega
theorem ltSt_tot {x y : St3} (h : ¬ ltSt x y) (h' : ¬ ltSt y x) : x = y := by
  obtain ⟨a, b, c⟩ := x; obtain ⟨d, e, f⟩ := y
  unfold ltSt at *
  simp only [Prod.mk.injEq]
  simp only at h h'
  omega
noncomputable def cmpF : St3 → St3 → Option Int := fun (a0, a1, a2) (b0, b1, b2) => R104 Ar.std a0 a1 a2 b0 b1 b2
theorem cmpF_eq (x y : St3) : cmpF x y = some (cmpSt x y) := R104_eq x y
theorem ltF_cmp (x y : St3) : ltF cmpF x y = decide (ltSt x y) := by
  unfold ltF
  rw [cmpF_eq]
  exact decide_eq_decide.2 cmpSt_neg
theorem cmpF_ok (xs : List St3) : CmpOk cmpF xs where
  some x _ y _ := ⟨_, cmpF_eq x y⟩
  irr x _ := by rw [ltF_cmp]; exact decide_eq_false ltSt_irr
  tr x _ y _ z _ h h' := by rw [ltF_cmp, decide_eq_true_eq] at *; exact ltSt_trans h h'
  tot x _ y _ h h' := by rw [ltF_cmp, decide_eq_false_iff_not] at *; exact ltSt_tot h h'
noncomputable def sortSt (l : List St3) : List St3 := l.mergeSort fun x y => !ltF cmpF y x
theorem sortSt_perm (l : List St3) : (sortSt l).Perm l := List.mergeSort_perm _ _
theorem sortSt_len (l : List St3) : (sortSt l).length = l.length := (sortSt_perm l).length_eq
theorem R103a_eq (l : List St3) (hl : l.length < 4611686018427387904) (a b c : Int) : R103a Ar.std 0 (Ar.std.len (eSt l)) a b c (eSt l) = some (eSt (sortSt l)) := by
  have := srt_eq (c := cG (lc (cI .i64) (lc (cI .i64) (l1 (cI .i64))))) (f := cmpF) (n := Ar.std.len (eSt l)) (xs := l) (by rw [len_enc]) (by rw [len_enc]; omega) (cmpF_ok l)
  exact this
end Go.Am

set_option maxRecDepth 100000
set_option linter.unusedVariables false
set_option linter.unusedSimpArgs false
set_option linter.unusedSectionVars false
namespace Go.Am
open Go
theorem pairZ (i k n : Nat) : ((i : Int) * (n : Int) + (k : Int)) = ((i * n + k : Nat) : Int) := by rw [Int.natCast_add, Int.natCast_mul]
theorem pair_div {i k n : Nat} (h : k < n) : (i * n + k) / n = i := by rw [Nat.add_comm, Nat.add_mul_div_right _ _ (by omega), Nat.div_eq_of_lt h, Nat.zero_add]
theorem pair_mod {i k n : Nat} (h : k < n) : (i * n + k) % n = k := by rw [Nat.add_comm, Nat.add_mul_mod_self_right, Nat.mod_eq_of_lt h]
theorem pair_lt {i k m n : Nat} (h : i < m) (h' : k < n) : i * n + k < m * n := by
  have := Nat.mul_le_mul_right n (show i + 1 ≤ m by omega)
  rw [Nat.add_mul] at this; omega
theorem pair_inj {i k i' k' n : Nat} (h : k < n) (h' : k' < n) (e : i * n + k = i' * n + k') : i = i' ∧ k = k' := by
  have h1 := pair_div (i := i) h
  have h2 := pair_mod (i := i) h
  rw [e] at h1 h2
  rw [pair_div h'] at h1
  rw [pair_mod h'] at h2
  exact ⟨h1.symm, h2.symm⟩
theorem pair_of {j m n : Nat} (h : j < m * n) : ∃ i k, i < m ∧ k < n ∧ j = i * n + k := by
  have hn : 0 < n := by rcases Nat.eq_zero_or_pos n with rfl | h1; simp at h; exact h1
  refine ⟨j / n, j % n, ?_, Nat.mod_lt _ hn, ?_⟩
  · rw [Nat.div_lt_iff_lt_mul hn]; exact h
  · rw [Nat.mul_comm]; exact (Nat.div_add_mod j n).symm
theorem quiet_fix {m : Nat} {l : List St3} (S : Sys m l) {s : Nat} (hs : s < 2 ^ m) : hid l (quietN m l s) = quietN m l s := by
  rw [quietN_nat]; exact hids_fix S.sb hs
theorem hids_in {l : List St3} {j : Nat} : ∀ (r s : Nat), s.testBit j = true → (hids l r s).testBit j = true
  | 0, _, h => h
  | r + 1, s, h => hids_in r _ (by unfold hid; rw [Nat.testBit_or, h]; rfl)
theorem quiet_in {m : Nat} {l : List St3} {s j : Nat} (h : s.testBit j = true) : (quietN m l s).testBit j = true := by rw [quietN_nat]; exact hids_in m s h
theorem hid_test {l : List St3} {s j : Nat} : (hid l s).testBit j = true ↔ s.testBit j = true ∨ ∃ z ∈ l, z.2.1 = 0 ∧ s.testBit z.1.toNat = true ∧ z.2.2.toNat = j := by
  unfold hid
  rw [Nat.testBit_or, Bool.or_eq_true, stepN_test, List.any_eq_true]
  simp only [goes, Bool.and_eq_true, decide_eq_true_eq, and_assoc]
theorem step_test {l : List St3} {s j : Nat} {lab : Int} : (stepN l s lab).testBit j = true ↔ ∃ z ∈ l, z.2.1 = lab ∧ s.testBit z.1.toNat = true ∧ z.2.2.toNat = j := by
  rw [stepN_test, List.any_eq_true]
  simp only [goes, Bool.and_eq_true, decide_eq_true_eq, and_assoc]
theorem st_bnd {m : Nat} {l : List St3} (hv : vSys (m : Int) l = true) {x : St3} (hx : x ∈ l) : ∃ i i' : Nat, x.1 = (i : Int) ∧ x.2.2 = (i' : Int) ∧ i < m ∧ i' < m ∧ 0 ≤ x.2.1 ∧ x.2.1 ≤ 3 := by
  obtain ⟨_, _, _, h⟩ := vSys_st hv
  have := stOk_iff.1 (h x hx)
  exact ⟨x.1.toNat, x.2.2.toNat, by omega, by omega, by omega, by omega, this.2.2⟩
section
variable {m n : Nat} {l l' B : List St3} (hv : vSys (m : Int) l = true) (hv' : vSys (n : Int) l' = true) (S : Sys m l) (S' : Sys n l') (hmn : m * n ≤ 6) (hB : ∀ z, z ∈ B ↔ Tog m l n l' z) (hvB : vSys ((m * n : Nat) : Int) B = true) (SB' : Sys (m * n) B)
include hv hv' S S' hmn hB
theorem tog_dec {z : St3} (hz : z ∈ B) : ∃ i k i' k' : Nat, (i < m ∧ k < n ∧ i' < m ∧ k' < n) ∧ z.1 = ((i * n + k : Nat) : Int) ∧ z.2.2 = ((i' * n + k' : Nat) : Int) ∧ (0 ≤ z.2.1 ∧ z.2.1 ≤ 3) ∧
    ((z.2.1 ≠ 0 ∧ ((i : Int), z.2.1, (i' : Int)) ∈ l ∧ ((k : Int), z.2.1, (k' : Int)) ∈ l') ∨ (z.2.1 = 0 ∧ ((i : Int), 0, (i' : Int)) ∈ l ∧ k' = k) ∨ (z.2.1 = 0 ∧ i' = i ∧ ((k : Int), 0, (k' : Int)) ∈ l')) := by
  rcases (hB z).1 hz with ⟨x, y, hx, hy, he, h0, rfl⟩ | ⟨x, k, hx, h0, hk, rfl⟩ | ⟨y, i, hy, h0, hi, rfl⟩
  · obtain ⟨i, i', e1, e2, h1, h2, h3⟩ := st_bnd hv hx
    obtain ⟨k, k', e3, e4, h4, h5, h6⟩ := st_bnd hv' hy
    obtain ⟨x1, x2, x3⟩ := x
    obtain ⟨y1, y2, y3⟩ := y
    simp only at *
    subst e1; subst e2; subst e3; subst e4; subst he
    exact ⟨i, k, i', k', ⟨h1, h4, h2, h5⟩, pairZ _ _ _, pairZ _ _ _, h3, .inl ⟨h0, hx, hy⟩⟩
  · obtain ⟨i, i', e1, e2, h1, h2, h3⟩ := st_bnd hv hx
    obtain ⟨x1, x2, x3⟩ := x
    simp only at *
    subst e1; subst e2; subst h0
    exact ⟨i, k, i', k, ⟨h1, hk, h2, hk⟩, pairZ _ _ _, pairZ _ _ _, ⟨Int.le_refl 0, (by decide : (0 : Int) ≤ 3)⟩, .inr (.inl ⟨rfl, hx, rfl⟩)⟩
  · obtain ⟨k, k', e3, e4, h4, h5, h6⟩ := st_bnd hv' hy
    obtain ⟨y1, y2, y3⟩ := y
    simp only at *
    subst e3; subst e4; subst h0
    exact ⟨i, k, i, k', ⟨hi, h4, hi, h5⟩, pairZ _ _ _, pairZ _ _ _, ⟨Int.le_refl 0, (by decide : (0 : Int) ≤ 3)⟩, .inr (.inr ⟨rfl, rfl, hy⟩)⟩
omit S S' hmn hv hv' in
theorem togA {i k i' k' : Nat} {lab : Int} (h0 : lab ≠ 0) (hx : ((i : Int), lab, (i' : Int)) ∈ l) (hy : ((k : Int), lab, (k' : Int)) ∈ l') : (((i * n + k : Nat) : Int), lab, ((i' * n + k' : Nat) : Int)) ∈ B := by
  refine (hB _).2 (.both _ _ hx hy rfl h0 ?_)
  unfold bothA
  simp only [pairZ]
omit S S' hmn hv hv' in
theorem togS {i i' k : Nat} (hx : ((i : Int), (0 : Int), (i' : Int)) ∈ l) (hk : k < n) : (((i * n + k : Nat) : Int), (0 : Int), ((i' * n + k : Nat) : Int)) ∈ B := by
  refine (hB _).2 (.one _ k hx rfl hk ?_)
  unfold bothS
  simp only [pairZ]
omit S S' hmn hv hv' in
theorem togT {i k k' : Nat} (hy : ((k : Int), (0 : Int), (k' : Int)) ∈ l') (hi : i < m) : (((i * n + k : Nat) : Int), (0 : Int), ((i * n + k' : Nat) : Int)) ∈ B := by
  refine (hB _).2 (.two _ i hy rfl hi ?_)
  unfold bothT
  simp only [pairZ]
theorem tog_valid (hn : B.Nodup) (hl : B.length ≤ 24) : vSys ((m * n : Nat) : Int) B = true := by
  have h1 := S.pos
  have h2 := S'.pos
  have h3 : 0 < m * n := Nat.mul_pos h1 h2
  refine vSys_of (by omega) hl hn (fun z hz => ?_)
  obtain ⟨i, k, i', k', ⟨g1, g2, g3, g4⟩, e1, e2, h3, _⟩ := tog_dec hv hv' S S' hmn hB hz
  have b1 := pair_lt g1 g2
  have b2 := pair_lt g3 g4
  rw [stOk_iff, e1, e2]
  exact ⟨by omega, by omega, h3⟩
def PR (m n s a b : Nat) : Prop := ∀ i k, i < m → k < n → s.testBit (i * n + k) = (a.testBit i && b.testBit k)
include SB'
theorem quiet_both {s a b : Nat} (hs : s < 2 ^ (m * n)) (ha : a < 2 ^ m) (hb : b < 2 ^ n) (h : PR m n s a b) : PR m n (quietN ((m * n : Nat) : Int) B s) (quietN m l a) (quietN n l' b) := by
  have fa := quiet_fix S ha
  have fb := quiet_fix S' hb
  have fs := quiet_fix SB' hs
  obtain ⟨qa, hqa⟩ : ∃ q, quietN m l a = q := ⟨_, rfl⟩
  obtain ⟨qb, hqb⟩ : ∃ q, quietN n l' b = q := ⟨_, rfl⟩
  obtain ⟨Q, hQ⟩ : ∃ q, quietN ((m * n : Nat) : Int) B s = q := ⟨_, rfl⟩
  rw [hqa] at fa; rw [hqb] at fb; rw [hQ] at fs
  rw [hqa, hqb, hQ]
  
  have fwd : ∀ (r s : Nat), (∀ i k, i < m → k < n → s.testBit (i * n + k) = true → qa.testBit i = true ∧ qb.testBit k = true) → ∀ i k, i < m → k < n → (hids B r s).testBit (i * n + k) = true → qa.testBit i = true ∧ qb.testBit k = true := by
    intro r
    induction r with
    | zero => intro s h; exact h
    | succ r ih =>
      intro s hs'
      refine ih (hid B s) (fun i k hi hk ht => ?_)
      rcases hid_test.1 ht with h1 | ⟨z, hz, hz0, hzs, hzj⟩
      · exact hs' i k hi hk h1
      · obtain ⟨i1, k1, i2, k2, ⟨g1, g2, g3, g4⟩, e1, e2, _, hc⟩ := tog_dec hv hv' S S' hmn hB hz
        rw [e1, Int.toNat_natCast] at hzs
        rw [e2, Int.toNat_natCast] at hzj
        obtain ⟨rfl, rfl⟩ := pair_inj g4 hk hzj
        obtain ⟨p1, p2⟩ := hs' i1 k1 g1 g2 hzs
        rcases hc with ⟨hne, _⟩ | ⟨_, hx, rfl⟩ | ⟨_, rfl, hy⟩
        · exact absurd hz0 hne
        · refine ⟨?_, p2⟩
          rw [← fa]; exact hid_test.2 (.inr ⟨_, hx, rfl, by simpa using p1, by simp⟩)
        · refine ⟨p1, ?_⟩
          rw [← fb]; exact hid_test.2 (.inr ⟨_, hy, rfl, by simpa using p2, by simp⟩)
  
  have bk1 : ∀ (r a' : Nat), (∀ i k, i < m → k < n → a'.testBit i = true → b.testBit k = true → Q.testBit (i * n + k) = true) → ∀ i k, i < m → k < n → (hids l r a').testBit i = true → b.testBit k = true → Q.testBit (i * n + k) = true := by
    intro r
    induction r with
    | zero => intro a' h; exact h
    | succ r ih =>
      intro a' h'
      refine ih (hid l a') (fun i k hi hk ht hbk => ?_)
      rcases hid_test.1 ht with h1 | ⟨z, hz, hz0, hzs, hzj⟩
      · exact h' i k hi hk h1 hbk
      · obtain ⟨i1, i2, e1, e2, g1, g2, _⟩ := st_bnd hv hz
        rw [e1, Int.toNat_natCast] at hzs
        rw [e2, Int.toNat_natCast] at hzj
        subst hzj
        obtain ⟨z1, z2, z3⟩ := z
        simp only at e1 e2 hz0
        subst e1; subst e2; subst hz0
        have := h' i1 k g1 hk hzs hbk
        rw [← fs]; exact hid_test.2 (.inr ⟨_, togS hB hz hk, rfl, by show Q.testBit (Int.toNat ((i1 * n + k : Nat) : Int)) = true; rw [Int.toNat_natCast]; exact this, Int.toNat_natCast _⟩)
  have bk2 : ∀ (r b' : Nat), (∀ i k, i < m → k < n → qa.testBit i = true → b'.testBit k = true → Q.testBit (i * n + k) = true) → ∀ i k, i < m → k < n → qa.testBit i = true → (hids l' r b').testBit k = true → Q.testBit (i * n + k) = true := by
    intro r
    induction r with
    | zero => intro b' h; exact h
    | succ r ih =>
      intro b' h'
      refine ih (hid l' b') (fun i k hi hk hai ht => ?_)
      rcases hid_test.1 ht with h1 | ⟨z, hz, hz0, hzs, hzj⟩
      · exact h' i k hi hk hai h1
      · obtain ⟨i1, i2, e1, e2, g1, g2, _⟩ := st_bnd hv' hz
        rw [e1, Int.toNat_natCast] at hzs
        rw [e2, Int.toNat_natCast] at hzj
        subst hzj
        obtain ⟨z1, z2, z3⟩ := z
        simp only at e1 e2 hz0
        subst e1; subst e2; subst hz0
        have := h' i i1 hi g1 hai hzs
        rw [← fs]; exact hid_test.2 (.inr ⟨_, togT hB hz hi, rfl, by show Q.testBit (Int.toNat ((i * n + i1 : Nat) : Int)) = true; rw [Int.toNat_natCast]; exact this, Int.toNat_natCast _⟩)
  intro i k hi hk
  rw [Bool.eq_iff_iff, Bool.and_eq_true]
  constructor
  · intro hq
    rw [← hQ, quietN_nat] at hq
    refine fwd (m * n) s (fun i k hi hk ht => ?_) i k hi hk hq
    rw [h i k hi hk, Bool.and_eq_true] at ht
    exact ⟨by rw [← hqa]; exact quiet_in ht.1, by rw [← hqb]; exact quiet_in ht.2⟩
  · rintro ⟨h1, h2⟩
    rw [← hqb, quietN_nat] at h2
    refine bk2 n b (fun i k hi hk hai hbk => ?_) i k hi hk h1 h2
    rw [← hqa, quietN_nat] at hai
    refine bk1 m a (fun i k hi hk hai hbk => ?_) i k hi hk hai hbk
    rw [← hQ]
    exact quiet_in (by rw [h i k hi hk, hai, hbk]; rfl)
omit SB' in
theorem step_both {s a b : Nat} (h : PR m n s a b) {lab : Int} (h0 : lab ≠ 0) : PR m n (stepN B s lab) (stepN l a lab) (stepN l' b lab) := by
  intro i k hi hk
  rw [Bool.eq_iff_iff, Bool.and_eq_true, step_test, step_test, step_test]
  constructor
  · rintro ⟨z, hz, hzl, hzs, hzj⟩
    obtain ⟨i1, k1, i2, k2, ⟨g1, g2, g3, g4⟩, e1, e2, _, hc⟩ := tog_dec hv hv' S S' hmn hB hz
    rw [e1, Int.toNat_natCast, h i1 k1 g1 g2, Bool.and_eq_true] at hzs
    rw [e2, Int.toNat_natCast] at hzj
    obtain ⟨rfl, rfl⟩ := pair_inj g4 hk hzj
    rcases hc with ⟨_, hx, hy⟩ | ⟨hz0, _⟩ | ⟨hz0, _⟩
    · exact ⟨⟨_, hx, hzl, by simpa using hzs.1, by simp⟩, ⟨_, hy, hzl, by simpa using hzs.2, by simp⟩⟩
    · exact absurd (hzl.symm.trans hz0) h0
    · exact absurd (hzl.symm.trans hz0) h0
  · rintro ⟨⟨x, hx, hxl, hxs, hxj⟩, ⟨y, hy, hyl, hys, hyj⟩⟩
    obtain ⟨i1, i2, e1, e2, g1, g2, _⟩ := st_bnd hv hx
    obtain ⟨k1, k2, e3, e4, g3, g4, _⟩ := st_bnd hv' hy
    rw [e1, Int.toNat_natCast] at hxs
    rw [e2, Int.toNat_natCast] at hxj
    rw [e3, Int.toNat_natCast] at hys
    rw [e4, Int.toNat_natCast] at hyj
    subst hxj; subst hyj
    obtain ⟨x1, x2, x3⟩ := x
    obtain ⟨y1, y2, y3⟩ := y
    simp only at e1 e2 e3 e4 hxl hyl
    subst e1; subst e2; subst e3; subst e4; subst hxl; subst hyl
    refine ⟨_, togA hB h0 hx hy, rfl, ?_, Int.toNat_natCast _⟩
    show s.testBit (Int.toNat ((i1 * n + k1 : Nat) : Int)) = true
    rw [Int.toNat_natCast, h i1 k1 g1 g3, hxs, hys]; rfl
theorem comes_both {s a b : Nat} (hs : s < 2 ^ (m * n)) (ha : a < 2 ^ m) (hb : b < 2 ^ n) (h : PR m n s a b) {lab : Int} (h0 : lab ≠ 0) : PR m n (comesN ((m * n : Nat) : Int) B s lab) (comesN m l a lab) (comesN n l' b lab) := by
  unfold comesN
  rw [decide_eq_false h0, cond_false, cond_false, cond_false]
  have h1 := quiet_both hv hv' S S' hmn hB SB' hs ha hb h
  have h2 := step_both hv hv' S S' hmn hB h1 h0
  exact quiet_both hv hv' S S' hmn hB SB' (stepN_ltB SB'.sb _ _) (stepN_ltB S.sb _ _) (stepN_ltB S'.sb _ _) h2
theorem behind_both : ∀ (tr : List Int), seenL tr = true → PR m n (behindN ((m * n : Nat) : Int) B tr) (behindN m l tr) (behindN n l' tr) := by
  have p1 : 1 < 2 ^ (m * n) := Nat.one_lt_two_pow (by have := SB'.pos; omega)
  have pa : 1 < 2 ^ m := Nat.one_lt_two_pow (by have := S.pos; omega)
  have pb : 1 < 2 ^ n := Nat.one_lt_two_pow (by have := S'.pos; omega)
  have h1 : PR m n 1 1 1 := by
    intro i k hi hk
    have t : ∀ j, Nat.testBit 1 j = decide (j = 0) := fun j => by
      have := Nat.testBit_two_pow (n := 0) (m := j)
      rw [show (2 : Nat) ^ 0 = 1 from rfl] at this
      rw [this]; exact decide_eq_decide.2 eq_comm
    rw [t, t, t]
    by_cases hi0 : i = 0
    · subst hi0; simp
    · have : 0 < i * n := Nat.mul_pos (by omega) (by omega)
      rw [decide_eq_false hi0, decide_eq_false (by omega)]; rfl
  have h2 := quiet_both hv hv' S S' hmn hB SB' p1 pa pb h1
  have key : ∀ (tr : List Int) (s a b : Nat), s < 2 ^ (m * n) → a < 2 ^ m → b < 2 ^ n → seenL tr = true → PR m n s a b → PR m n (tr.foldl (comesN ((m * n : Nat) : Int) B) s) (tr.foldl (comesN m l) a) (tr.foldl (comesN n l') b) := by
    intro tr
    induction tr with
    | nil => intro s a b _ _ _ _ h; exact h
    | cons x tr ih =>
      intro s a b hs ha hb ht h
      unfold seenL at ht
      rw [List.all_cons, Bool.and_eq_true, btw_true] at ht
      rw [List.foldl_cons, List.foldl_cons, List.foldl_cons]
      exact ih _ _ _ (comesN_ltB SB'.sb hs x) (comesN_ltB S.sb ha x) (comesN_ltB S'.sb hb x) ht.2 (comes_both hv hv' S S' hmn hB SB' hs ha hb h (by omega))
  exact fun tr ht => key tr _ _ _ (quietN_ltB SB'.sb p1) (quietN_ltB S.sb pa) (quietN_ltB S'.sb pb) ht h2
omit hv hv' S S' hmn hB SB' in
theorem ne_zero_bit {s : Nat} : s ≠ 0 ↔ ∃ j, s.testBit j = true := by
  constructor
  · intro h
    obtain ⟨j, hj⟩ := Nat.exists_testBit_ne_of_ne h
    rw [Nat.zero_testBit] at hj
    exact ⟨j, by cases hb : s.testBit j <;> simp_all⟩
  · rintro ⟨j, hj⟩ rfl
    rw [Nat.zero_testBit] at hj; cases hj
omit hv hv' S S' hmn hB SB' in
theorem bit_lt {s k j : Nat} (hs : s < 2 ^ k) (h : s.testBit j = true) : j < k := by
  rcases Nat.lt_or_ge j k with h1 | h1
  · exact h1
  · rw [Nat.testBit_lt_two_pow (Nat.lt_of_lt_of_le hs (Nat.pow_le_pow_right (by decide) h1))] at h; cases h
theorem behind_zero (tr : List Int) (ht : seenL tr = true) : (!decide (behindN ((m * n : Nat) : Int) B tr = 0)) = ((!decide (behindN m l tr = 0)) && (!decide (behindN n l' tr = 0))) := by
  have h := behind_both hv hv' S S' hmn hB SB' tr ht
  have b0 := behindN_ltB SB' tr
  have b1 := behindN_ltB S tr
  have b2 := behindN_ltB S' tr
  rw [Bool.eq_iff_iff, Bool.and_eq_true]
  simp only [Bool.not_eq_true', decide_eq_false_iff_not]
  rw [← ne_eq, ← ne_eq, ← ne_eq, ne_zero_bit, ne_zero_bit, ne_zero_bit]
  constructor
  · rintro ⟨j, hj⟩
    obtain ⟨i, k, hi, hk, rfl⟩ := pair_of (bit_lt b0 hj)
    rw [h i k hi hk, Bool.and_eq_true] at hj
    exact ⟨⟨i, hj.1⟩, ⟨k, hj.2⟩⟩
  · rintro ⟨⟨i, hi⟩, ⟨k, hk⟩⟩
    exact ⟨i * n + k, by rw [h i k (bit_lt b1 hi) (bit_lt b2 hk), hi, hk]; rfl⟩
theorem both_ref1 : mem2 (bestF (m * n) B m l) 0 0 := by
  refine ref_of SB' S (f := fun j => if j < m * n then 2 ^ (j / n) else 0) (fun i hi => if_neg (by omega)) (fun j => ?_) (fun x y hxy => ?_) ?_
  · show (if j < m * n then 2 ^ (j / n) else 0) < 2 ^ m
    split
    · rename_i hj
      obtain ⟨i, k, hi, hk, rfl⟩ := pair_of hj
      rw [pair_div hk]; exact Nat.pow_lt_pow_right (by decide) hi
    · exact Nat.two_pow_pos m
  · have hx : x < m * n := by
      rcases Nat.lt_or_ge x (m * n) with h | h
      · exact h
      · unfold mem2 at hxy; simp only [if_neg (Nat.not_lt.2 h), Nat.zero_testBit] at hxy; cases hxy
    obtain ⟨i, k, hi, hk, rfl⟩ := pair_of hx
    have hy : i = y := by
      unfold mem2 at hxy
      simp only [if_pos hx, pair_div hk, Nat.testBit_two_pow] at hxy
      exact of_decide_eq_true hxy
    subst hy
    rw [keep_iff]
    intro z hz hz1
    obtain ⟨i1, k1, i2, k2, ⟨g1, g2, g3, g4⟩, e1, e2, _, hc⟩ := tog_dec hv hv' S S' hmn hB hz
    rw [e1] at hz1
    obtain ⟨rfl, rfl⟩ := pair_inj g2 hk (Int.ofNat.inj hz1)
    rw [e2, Int.toNat_natCast]
    refine and_ne (z := i2) (by simp only [if_pos (pair_lt g3 g4), pair_div g4, Nat.testBit_two_pow]; exact decide_eq_true trivial) ?_
    rcases hc with ⟨_, hx', hy'⟩ | ⟨h0, hx', _⟩ | ⟨h0, rfl, _⟩
    · have := comes_has S (s := 2 ^ i1) hx' (by simp [Nat.testBit_two_pow])
      simpa using this
    · have := comes_has S (s := 2 ^ i1) hx' (by simp [Nat.testBit_two_pow])
      rw [h0]; simpa using this
    · rw [h0]
      show (comesN m l (2 ^ i2) 0).testBit i2 = true
      unfold comesN
      rw [decide_eq_true rfl, cond_true]
      exact quiet_in (by rw [Nat.testBit_two_pow]; exact decide_eq_true rfl)
  · have hp : 0 < m * n := SB'.pos
    unfold mem2
    simp only [if_pos hp, Nat.zero_div]; rfl
theorem both_ref2 : mem2 (bestF (m * n) B n l') 0 0 := by
  refine ref_of SB' S' (f := fun j => if j < m * n then 2 ^ (j % n) else 0) (fun i hi => if_neg (by omega)) (fun j => ?_) (fun x y hxy => ?_) ?_
  · show (if j < m * n then 2 ^ (j % n) else 0) < 2 ^ n
    split
    · rename_i hj
      obtain ⟨i, k, hi, hk, rfl⟩ := pair_of hj
      rw [pair_mod hk]; exact Nat.pow_lt_pow_right (by decide) hk
    · exact Nat.two_pow_pos n
  · have hx : x < m * n := by
      rcases Nat.lt_or_ge x (m * n) with h | h
      · exact h
      · unfold mem2 at hxy; simp only [if_neg (Nat.not_lt.2 h), Nat.zero_testBit] at hxy; cases hxy
    obtain ⟨i, k, hi, hk, rfl⟩ := pair_of hx
    have hy : k = y := by
      unfold mem2 at hxy
      simp only [if_pos hx, pair_mod hk, Nat.testBit_two_pow] at hxy
      exact of_decide_eq_true hxy
    subst hy
    rw [keep_iff]
    intro z hz hz1
    obtain ⟨i1, k1, i2, k2, ⟨g1, g2, g3, g4⟩, e1, e2, _, hc⟩ := tog_dec hv hv' S S' hmn hB hz
    rw [e1] at hz1
    obtain ⟨rfl, rfl⟩ := pair_inj g2 hk (Int.ofNat.inj hz1)
    rw [e2, Int.toNat_natCast]
    refine and_ne (z := k2) (by simp only [if_pos (pair_lt g3 g4), pair_mod g4, Nat.testBit_two_pow]; exact decide_eq_true trivial) ?_
    rcases hc with ⟨_, hx', hy'⟩ | ⟨h0, _, rfl⟩ | ⟨h0, _, hy'⟩
    · have := comes_has S' (s := 2 ^ k1) hy' (by simp [Nat.testBit_two_pow])
      simpa using this
    · rw [h0]
      show (comesN n l' (2 ^ k2) 0).testBit k2 = true
      unfold comesN
      rw [decide_eq_true rfl, cond_true]
      exact quiet_in (by rw [Nat.testBit_two_pow]; exact decide_eq_true rfl)
    · have := comes_has S' (s := 2 ^ k1) hy' (by simp [Nat.testBit_two_pow])
      rw [h0]; simpa using this
  · have hp : 0 < m * n := SB'.pos
    unfold mem2
    simp only [if_pos hp, Nat.zero_mod]; rfl
end
end Go.Am

set_option maxRecDepth 100000
set_option linter.unusedVariables false
set_option linter.unusedSimpArgs false
set_option linter.unusedSectionVars false
namespace Go.Am
open Go
noncomputable def bothS' (m : Nat) (l : List St3) (n : Nat) (l' : List St3) : List St3 := sortSt (bothL m l n l')
noncomputable def bothR (m : Nat) (l : List St3) (n : Nat) (l' : List St3) : Int × List St3 × Int :=
  bif decide (6 < m * n) || decide (24 < (bothL m l n l').length) then (0, [], 4) else (((m * n : Nat) : Int), bothS' m l n l', 0)
theorem bothS_mem {m : Nat} {l : List St3} {n : Nat} {l' : List St3} (z : St3) : z ∈ bothS' m l n l' ↔ Tog m l n l' z := by
  unfold bothS'; rw [(sortSt_perm _).mem_iff, bothL_mem]
theorem scalSt' (l : List St3) : ck (scalars (eSt l)) = some () := by rw [scalSt, ck_true]
theorem fz_all (l : List St3) : fz Ar.std (eSt l) 0 (Ar.std.len (eSt l)) = some (eSt l) := by
  unfold fz
  have h1 : Ar.std.zle (Ar.std.zadd 0 (Ar.std.len (eSt l))) (Ar.std.len (eSt l)) = true := by rw [std_zle, std_zadd]; exact decide_eq_true (by omega)
  have hle : (eSt l).length = l.length := by simp [eSt, enc]
  have h2 : Ar.std.sub (eSt l) 0 (Ar.std.zadd 0 (Ar.std.len (eSt l))) = eSt l := by
    simp only [Ar.std, Int.zero_add, Int.toNat_natCast, Int.toNat_zero, List.drop_zero, Nat.sub_zero]
    exact List.take_of_length_le (Nat.le_refl _)
  rw [h1, cond_true, h2]
theorem R56_ok {m n : Nat} {l l' : List St3} (hv : vSys (m : Int) l = true) (hv' : vSys (n : Int) l' = true) (S : Sys m l) (S' : Sys n l') (hl : l.length < Lg) (hl' : l'.length < Lg) :
    R56 Ar.std (m : Int) (eSt l) (n : Int) (eSt l') = some ((bothR m l n l').1, eSt (bothR m l n l').2.1, (bothR m l n l').2.2) := by
  have h24 := (vSys_st hv).2.1
  have h24' := (vSys_st hv').2.1
  have hm6 := S.le
  have hn6 := S'.le
  have hmn36 : m * n ≤ 36 := Nat.mul_le_mul hm6 hn6
  have hw : Ar.std.wrp .i64 (Ar.std.zmul (m : Int) (n : Int)) = ((m * n : Nat) : Int) := by
    rw [std_zmul, ← Int.natCast_mul, std_wrp, i64w _ (by omega) (by omega)]
  have hlim : Ar.std.zlt 6 ((m * n : Nat) : Int) = decide (6 < m * n) := by rw [std_zlt]; exact decide_eq_decide.2 (by omega)
  unfold R56 bothR
  rw [R33_eq _ l hl, bsome, hv, cond_true, R33_eq _ l' hl', bsome, hv', Bool.not_true, bsome, cond_false, hw, hlim]
  cases h6 : decide (6 < m * n) with
  | true => rfl
  | false =>
    have h6' : m * n ≤ 6 := by have := of_decide_eq_false h6; omega
    have hlen0 := both2_fold_len n l' l []
    have hm : l.length * (l'.length + n) ≤ 24 * 30 := Nat.mul_le_mul h24 (by omega)
    simp only [List.length_nil] at hlen0
    rw [cond_false, R56L2_eq S S' h24 h24', bsome, R56L4_eq S S' h24' (by omega), bsome, show l'.foldl (both3 m n) (l.foldl (both2 n l') []) = bothL m l n l' from rfl]
    have hlb : Ar.std.zlt 24 (Ar.std.len (eSt (bothL m l n l'))) = decide (24 < (bothL m l n l').length) := by rw [std_zlt, len_enc]; exact decide_eq_decide.2 (by omega)
    rw [hlb, Bool.false_or]
    cases hb : decide (24 < (bothL m l n l').length) with
    | true => rfl
    | false =>
      have hb' : (bothL m l n l').length ≤ 24 := by have := of_decide_eq_false hb; omega
      rw [cond_false, cond_false]
      have hpos : Ar.std.zlt 0 (Ar.std.len (eSt (bothL m l n l'))) = decide (0 < (bothL m l n l').length) := by rw [std_zlt, len_enc]; exact decide_eq_decide.2 (by omega)
      rw [hpos]
      unfold bothS'
      cases hp : decide (0 < (bothL m l n l').length) with
      | false =>
        have hnil : bothL m l n l' = [] := List.eq_nil_of_length_eq_zero (by have := of_decide_eq_false hp; omega)
        rw [cond_false, hnil]
        unfold R103
        have : sortSt [] = [] := List.eq_nil_of_length_eq_zero (sortSt_len [])
        rw [this]; rfl
      | true =>
        rw [cond_true, scalSt', bsome, R103a_eq _ (by omega), bsome]
        have hfz : fz Ar.std (eSt (sortSt (bothL m l n l'))) 0 (Ar.std.len (eSt (bothL m l n l'))) = some (eSt (sortSt (bothL m l n l'))) := by
          have e : Ar.std.len (eSt (bothL m l n l')) = Ar.std.len (eSt (sortSt (bothL m l n l'))) := by rw [len_enc, len_enc, sortSt_len]
          rw [e]; exact fz_all _
        rw [hfz, bsome]
theorem R15_ok (n n' : Int) (l l' : List St3) (hl : l.length < Lg) (hl' : l'.length < Lg) (tr : List Int) (ht : tr.length < Lg) : R15 Ar.std n (eSt l) n' (eSt l') (eInt tr) = some true := by
  have h42 := R42_eq [(n, l), (n', l')] (by show 2 < 9223372036854775808; decide) (fun s hs => by
    rcases List.mem_cons.1 hs with rfl | hs
    · exact hl
    · rw [List.mem_singleton] at hs; subst hs; exact hl')
  have h42' : R42 Ar.std [.agg [.int .i64 n, .list 3 (eSt l)], .agg [.int .i64 n', .list 3 (eSt l')]] = some (okSy (n, l) && okSy (n', l')) := by
    have e : [(n, l), (n', l')].all okSy = (okSy (n, l) && okSy (n', l')) := by simp
    rw [e] at h42; exact h42
  unfold R15
  rw [h42', bsome]
  cases hv0 : (okSy (n, l) && okSy (n', l')) with
  | false => rw [cond_false, bsome, cond_true, R17_eq]; rfl
  | true =>
    obtain ⟨hv, hv'⟩ := and2 hv0
    have hv : vSys n l = true := okSy_v hv
    have hv' : vSys n' l' = true := okSy_v hv'
    obtain ⟨m, rfl, S⟩ := Sys.of hv
    obtain ⟨k, rfl, S'⟩ := Sys.of hv'
    rw [cond_true, bsome]
    cases hlt : Ar.std.zlt 100 (Ar.std.len (eInt tr)) with
    | true => rw [cond_true, R17_eq]; rfl
    | false =>
      have ht100 : tr.length ≤ 100 := by
        rw [std_zlt, eInt, len_enc] at hlt
        have := of_decide_eq_false hlt; omega
      have hm6 := S.le
      have hn6 := S'.le
      have hmn36 : m * k ≤ 36 := Nat.mul_le_mul hm6 hn6
      have hw : Ar.std.wrp .i64 (Ar.std.zmul (m : Int) (k : Int)) = ((m * k : Nat) : Int) := by
        rw [std_zmul, ← Int.natCast_mul, std_wrp, i64w _ (by omega) (by omega)]
      rw [cond_false, R56_ok hv hv' S S' hl hl', bsome]
      try dsimp only
      unfold bothR
      cases hc : (decide (6 < m * k) || decide (24 < (bothL m l k l').length)) with
      | true =>
        rw [cond_true]
        try dsimp only
        have z1 : Ar.std.zeq 4 0 = false := rfl
        have z2 : Ar.std.zeq 4 4 = true := rfl
        rw [z1, cond_false, z2, cond_true, R17_eq]; rfl
      | false =>
        rw [Bool.or_eq_false_iff, decide_eq_false_iff_not, decide_eq_false_iff_not] at hc
        have hmn : m * k ≤ 6 := by omega
        have hlB : (bothS' m l k l').length ≤ 24 := by unfold bothS'; rw [sortSt_len]; omega
        have hB : ∀ z, z ∈ bothS' m l k l' ↔ Tog m l k l' z := bothS_mem
        have hvB := tog_valid hv hv' S S' hmn hB ((sortSt_perm _).nodup_iff.2 (bothL_nodup _ _ _ _)) hlB
        have SB' := Sys.same (m := m * k) rfl hvB
        have hLB : (bothS' m l k l').length < Lg := Nat.lt_of_le_of_lt hlB (by decide)
        have a1 := R44_eq ((m * k : Nat) : Int) (m : Int) (bothS' m l k l') l hLB hl
        rw [rfn_of rfl rfl hvB hv] at a1
        have a2 := R44_eq ((m * k : Nat) : Int) (k : Int) (bothS' m l k l') l' hLB hl'
        rw [rfn_of rfl rfl hvB hv'] at a2
        have r1 : (bestF (m * k) (bothS' m l k l') m l 0).testBit 0 = true := both_ref1 hv hv' S S' hmn hB SB'
        have r2 : (bestF (m * k) (bothS' m l k l') k l' 0).testBit 0 = true := both_ref2 hv hv' S S' hmn hB SB'
        rw [r1] at a1
        rw [r2] at a2
        have b1 := R18_eq ((m * k : Nat) : Int) (bothS' m l k l') hLB tr ht
        have b2 := R18_eq (m : Int) l hl tr ht
        have b3 := R18_eq (k : Int) l' hl' tr ht
        have hno : decide ((1000 : Int) < tr.length) = false := decide_eq_false (by omega)
        unfold isTr at b1 b2 b3
        rw [hvB, cond_true, hno, Bool.false_or] at b1
        rw [hv, cond_true, hno, Bool.false_or] at b2
        rw [hv', cond_true, hno, Bool.false_or] at b3
        have z0 : Ar.std.zeq 0 0 = true := rfl
        rw [cond_false]
        try dsimp only
        rw [z0, cond_true, R34_eq _ _ hLB, bsome, hvB, cond_true, hw, zeqS, Bool.not_true, bsome, cond_false, a1, bsome]
        try dsimp only
        rw [a2, bsome]
        try dsimp only
        rw [b1, bsome]
        try dsimp only
        rw [b2, bsome]
        try dsimp only
        rw [b3, bsome]
        try dsimp only
        rw [z0, cond_true, cond_true, cond_true, cond_true]
        cases hs : seenL tr with
        | false =>
          have z2 : Ar.std.zeq 2 2 = true := rfl
          have zb : Ar.std.beq false false = true := rfl
          simp only [Bool.not_false, cond_true, cond_false, z2, zb]
          rw [R17_eq]; rfl
        | true =>
          have hz := behind_zero hv hv' S S' hmn hB SB' tr hs
          simp only [Bool.not_true, cond_true, cond_false, z0, hz]
          cases (!decide (behindN (m : Int) l tr = 0)) <;> cases (!decide (behindN (k : Int) l' tr = 0)) <;> (rw [R17_eq]; rfl)
end Go.Am
