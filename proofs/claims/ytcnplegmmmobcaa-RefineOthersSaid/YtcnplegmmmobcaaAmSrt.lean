/- Own text: AmSrt. -/
import Derived.Test.YtcnplegmmmobcaaAmLaw
import Derived.CallsIn
import Derived.Lib.BitFns
set_option linter.unusedSimpArgs false
namespace Go.Am
open Go
theorem bits_u8 (n : Nat) (h : n < 256) : IntKind.u8.wrap (n : Int) = (n : Int) := u8w _ (by omega) (by omega)
theorem bv8 (n : Nat) (h : n < 256) : (BitVec.ofInt 8 (n : Int)).toNat = n := by
  rw [BitVec.toNat_ofInt]; omega
theorem and_u8 (a b : Nat) (ha : a < 256) (hb : b < 256) : bitsStd .and .u8 (a : Int) (b : Int) = ((a &&& b : Nat) : Int) := by
  have : (BitVec.ofInt IntKind.u8.bits (a : Int) &&& BitVec.ofInt IntKind.u8.bits (b : Int)).toNat = a &&& b := by
    rw [BitVec.toNat_and]; show (BitVec.ofInt 8 (a : Int)).toNat &&& (BitVec.ofInt 8 (b : Int)).toNat = _
    rw [bv8 a ha, bv8 b hb]
  simp only [bitsStd, this]
  exact bits_u8 _ (Nat.lt_of_le_of_lt Nat.and_le_left ha)
theorem or_lt {a b n : Nat} (ha : a < 2 ^ n) (hb : b < 2 ^ n) : a ||| b < 2 ^ n := Nat.or_lt_two_pow ha hb
theorem or_u8 (a b : Nat) (ha : a < 256) (hb : b < 256) : bitsStd .or .u8 (a : Int) (b : Int) = ((a ||| b : Nat) : Int) := by
  have : (BitVec.ofInt IntKind.u8.bits (a : Int) ||| BitVec.ofInt IntKind.u8.bits (b : Int)).toNat = a ||| b := by
    rw [BitVec.toNat_or]; show (BitVec.ofInt 8 (a : Int)).toNat ||| (BitVec.ofInt 8 (b : Int)).toNat = _
    rw [bv8 a ha, bv8 b hb]
  simp only [bitsStd, this]
  exact bits_u8 _ (or_lt (n := 8) ha hb)
theorem shl_u8 (i : Nat) (hi : i < 8) : IntKind.u8.wrap (1 * 2 ^ (min ((i : Int).toNat) IntKind.u8.bits)) = ((2 ^ i : Nat) : Int) := by
  have : min ((i : Int).toNat) IntKind.u8.bits = i := by show min _ 8 = i; omega
  rw [this]
  have h2 : (2 : Nat) ^ i < 256 := Nat.pow_lt_pow_right (by decide : 1 < 2) hi
  have := bits_u8 _ h2
  simpa using this
end Go.Am

set_option linter.unusedSimpArgs false
namespace Go.Am
open Go
theorem ACall.ofInt {P : Program} {f : FuncId} {k k' : IntKind} {x r : Int} (hc : callable P f = true)
    (h : ∀ w, Calls P f #[.int k x] w fun e w' => e = .returned (.int k' r) ∧ w' = w) : ACall P f [.d (.int k x)] [] (.d (.int k' r)) [] := by
  refine ⟨hc, rfl, rfl, rfl, Nat.le_refl _, fun n G w vs hs hrep RH ho => ?_⟩
  have h0 := hrep 0 (by simp)
  obtain ⟨v, rfl⟩ : ∃ v, vs = #[v] := by
    match vs, hs with
    | ⟨[v]⟩, _ => exact ⟨v, rfl⟩
  simp at h0
  cases h0 with | d _ _ _ h0 =>
  cases h0
  have hw : CallsIn Fence.wide n P f #[.int k x] w _ := callsIn_wide.2 (h w)
  refine CallsIn.mono (F := Wd none) hw ?_
  rintro e w' ⟨rfl, rfl⟩
  exact ⟨_, G, rfl, .d _ _ _ (.int _ _), RH, Ext.refl _ _ _⟩
def tz8 (A : Ar) (x : Int) : Option Int := bif A.zle 0 x then bif A.zle x 255 then some (Lib.trailingZeros8 x.toNat) else none else none
def oc8 (A : Ar) (x : Int) : Option Int := bif A.zle 0 x then bif A.zle x 255 then some (Lib.onesCount x.toNat) else none else none
theorem bitI {A : Ar} (hA : A = Ar.std) {x m r v : Int} (h : (bif A.zle 0 x then bif A.zle x m then some v else none else none) = some r) : 0 ≤ x ∧ x ≤ m ∧ r = v := by
  subst hA
  cases h1 : Ar.std.zle 0 x <;> cases h2 : Ar.std.zle x m <;> simp only [h1, h2, cond_true, cond_false] at h <;> try (cases h; done)
  exact ⟨of_decide_eq_true h1, of_decide_eq_true h2, (Option.some.inj h).symm⟩
end Go.Am

namespace Go.Am
open Go
section
variable {τ : Type}
def ltF (f : τ → τ → Option Int) (x y : τ) : Bool := match f x y with
  | some r => decide (r < 0)
  | none => false
structure CmpOk (f : τ → τ → Option Int) (xs : List τ) : Prop where
  some : ∀ x ∈ xs, ∀ y ∈ xs, ∃ r, f x y = some r
  irr : ∀ x ∈ xs, ltF f x x = false
  tr : ∀ x ∈ xs, ∀ y ∈ xs, ∀ z ∈ xs, ltF f x y = true → ltF f y z = true → ltF f x z = true
  tot : ∀ x ∈ xs, ∀ y ∈ xs, ltF f x y = false → ltF f y x = false → x = y
theorem CmpOk.ntr {f : τ → τ → Option Int} {xs : List τ} (h : CmpOk f xs) : ∀ x ∈ xs, ∀ y ∈ xs, ∀ z ∈ xs, ltF f x y = false → ltF f y z = false → ltF f x z = false := by
  intro x hx y hy z hz h1 h2
  cases h3 : ltF f x z with
  | false => rfl
  | true =>
    cases h4 : ltF f y x with
    | false => rw [h.tot x hx y hy h1 h4] at h3; rw [h3] at h2; cases h2
    | true => rw [h.tr y hy x hx z hz h4 h3] at h2; cases h2
open Classical in
noncomputable def srt (c : Cod τ) (f : τ → τ → Option Int) (lo n : Int) (l : List D) : Option (List D) :=
  if h : lo = 0 ∧ n = (l.length : Int) ∧ n < 4611686018427387904 ∧ ∃ xs : List τ, l = xs.map c.en ∧ CmpOk f xs then some ((h.2.2.2.choose.mergeSort fun x y => !ltF f y x).map c.en) else none
theorem Cod.inj (c : Cod τ) {x y : τ} (h : c.en x = c.en y) : x = y := by
  have := c.ko x
  rw [h, c.ko] at this
  exact (Option.some.inj this).symm
theorem Cod.map_inj (c : Cod τ) : ∀ {xs ys : List τ}, xs.map c.en = ys.map c.en → xs = ys
  | [], [], _ => rfl
  | [], _ :: _, h => by simp at h
  | _ :: _, [], h => by simp at h
  | x :: xs, y :: ys, h => by
    simp at h
    rw [c.inj h.1, Cod.map_inj c (xs := xs) (ys := ys) (by simpa using h.2)]
theorem srt_eq {c : Cod τ} {f : τ → τ → Option Int} {n : Int} {xs : List τ} (hn : n = (xs.length : Int)) (hs : n < 4611686018427387904) (h : CmpOk f xs) : srt c f 0 n (xs.map c.en) = some ((xs.mergeSort fun x y => !ltF f y x).map c.en) := by
  have hh : (0 : Int) = 0 ∧ n = ((xs.map c.en).length : Int) ∧ n < 4611686018427387904 ∧ ∃ ys : List τ, xs.map c.en = ys.map c.en ∧ CmpOk f ys := ⟨rfl, by simpa using hn, hs, xs, rfl, h⟩
  unfold srt
  rw [dif_pos hh]
  have := hh.2.2.2.choose_spec.1
  rw [← c.map_inj this]
theorem srtI {c : Cod τ} {f : τ → τ → Option Int} {lo n : Int} {l l' : List D} (h : srt c f lo n l = some l') : lo = 0 ∧ n = (l.length : Int) ∧ n < 4611686018427387904 ∧ ∃ xs : List τ, l = xs.map c.en ∧ CmpOk f xs ∧ l' = (xs.mergeSort fun x y => !ltF f y x).map c.en := by
  unfold srt at h
  split at h
  · rename_i hh
    have hc := hh.2.2.2.choose_spec
    generalize hh.2.2.2.choose = xs at h hc
    exact ⟨hh.1, hh.2.1, hh.2.2.1, xs, hc.1, hc.2, (Option.some.inj h).symm⟩
  · cases h
end
end Go.Am
