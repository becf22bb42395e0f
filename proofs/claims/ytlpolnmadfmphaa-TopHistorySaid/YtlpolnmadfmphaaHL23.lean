/- Own text: HL23. -/
import Derived.Test.YtlpolnmadfmphaaHL22
set_option maxRecDepth 100000
set_option linter.unusedVariables false
set_option linter.unusedSimpArgs false
set_option linter.unusedSectionVars false
namespace Go.Am
open Go
abbrev eBytes (l : List Int) : List D := enc (cI .u8) l
theorem H9L0_eq (S : List Spec) (h : List Call) (hs : SpecsOk S) (hl : h.length < Lg) (ha : areS S = true) (hf : forH S h = true) : iter (H9L0 Ar.std (eSpecs S) (eCalls h)) (true, 0) = some (.inl (!(ords0 S h).isEmpty)) := by
  have hv : validH h = true := by simp only [forH, Bool.and_eq_true] at hf; exact hf.1
  have e0 := lin_of hs ha (forH_sub hf (List.filter_sublist (p := isO 0)))
  have e1 := lin_of hs ha (forH_sub hf (List.filter_sublist (p := isO 1)))
  have k0 : H40 Ar.std (eCalls h) 0 = some (eCalls (h.filter (isO 0)), 0) := by rw [H40_eq hl, ofR_eq hv (.inl rfl)]
  have k1 : H40 Ar.std (eCalls h) 1 = some (eCalls (h.filter (isO 1)), 0) := by rw [H40_eq hl, ofR_eq hv (.inr rfl)]
  have hiff := objects_iff (S := S) hv
  have hb : (!(ords0 S h).isEmpty) = (!(ords0 S (h.filter (isO 0))).isEmpty && !(ords0 S (h.filter (isO 1))).isEmpty) := by
    rw [Bool.eq_iff_iff]
    simp only [Bool.and_eq_true, Bool.not_eq_true', List.isEmpty_eq_false_iff]
    exact hiff
  have v0 : IntKind.i64.wrap ((0 : Int) + 1) = 1 := by decide
  have v1 : IntKind.i64.wrap ((1 : Int) + 1) = 2 := by decide
  have s0 : H9L0 Ar.std (eSpecs S) (eCalls h) (true, 0) = some (.inl (!(ords0 S (h.filter (isO 0))).isEmpty, 1)) := by
    simp only [H9L0, std_zlt, k0, e0, bsome, std_zeq, decide_true, cond_true, Bool.not_true, cond_false, std_wrp, std_zadd, v0]
    rfl
  have s1 : H9L0 Ar.std (eSpecs S) (eCalls h) (!(ords0 S (h.filter (isO 0))).isEmpty, 1) = some (.inl (!(ords0 S h).isEmpty, 2)) := by
    simp only [H9L0, std_zlt, k1, e1, bsome, std_zeq, decide_true, cond_true, Bool.not_true, cond_false, std_wrp, std_zadd, v1, hb]
    cases (ords0 S (h.filter (isO 0))).isEmpty <;> rfl
  rw [iter_inl s0, iter_inl s1]
  exact iter_inr rfl
theorem gcB {l : List Int} {i : Nat} {a : Int} {k : Nat} (h : l[i]? = some a) (hk : k = i) : gc Ar.std (cI .u8) (eBytes l) k = some a := by subst hk; exact gc_enc h
theorem H9_ok (S : List Spec) (h : List Call) (hs : SpecsOk S) (hl : h.length < Lg) (x y z w : Int) (hx : 0 ≤ x ∧ x < 256) (hy : 0 ≤ y ∧ y < 256) : H9 Ar.std (eSpecs S) (eCalls h) (eBytes [x, y, z, w]) = some true := by
  unfold H9
  have hck : ck (Ar.std.zeq (Ar.std.len (eBytes [x, y, z, w])) (Int.ofNat 4)) = some () := rfl
  rw [hck, bsome, H17_eq S hs, H18_eq, H21_eq S h hs hl, H19_eq, bsome]
  cases largeS S with
  | true => rfl
  | false =>
  rw [cond_false, bsome, bsome]
  cases decide (40 < (h.length : Int)) with
  | true => rfl
  | false =>
  rw [cond_false]
  cases ha : areS S with
  | false => rfl
  | true =>
  rw [cond_true, bsome]
  dsimp only
  cases hf : forH S h with
  | false => rfl
  | true =>
  obtain ⟨h8, hok2⟩ := forH_in ha hf
  have hok : ∀ c ∈ h, callOk c = true := fun c hc => (hok2 c hc).1
  have hv : validH h = true := by simp only [forH, Bool.and_eq_true] at hf; exact hf.1
  have he0 : errH S h = 0 := by simp [errH, ha, hf]
  have z0 : Ar.std.zeq 0 0 = true := rfl
  rw [z0, cond_true, Bool.not_true, bsome, cond_false, lin_of hs ha hf, bsome]
  dsimp only
  rw [z0, cond_true, H9L0_eq S h hs hl ha hf, bsome, Sum.elim_inl, std_beq, beq_self_eq_true, cond_true, H43_eq S h hs hl]
  unfold orderR
  rw [he0, decide_eq_true rfl, cond_true]
  cases ho : ords0 S h with
  | nil => rfl
  | cons l r =>
  have hne : ords0 S h ≠ [] := by rw [ho]; simp
  have hlm : isOrdM S h bef (cN l) = true := (mem_ords0 hok (bef_must hok) l).1 (by show l ∈ ords0 S h; rw [ho]; simp)
  have hll : (cN l).length < Lg := by
    obtain ⟨p1, p2, _, _, _⟩ := isOrdM_parts hlm
    have : (cN l).length ≤ h.length := by
      have := nodup_le (l := cN l) (m := (List.range h.length).map fun i : Nat => (i : Int)) p2 (fun x hx => by
        have h1 := p1 x hx
        unfold inH at h1
        rw [btw_true] at h1
        exact List.mem_map.2 ⟨x.toNat, List.mem_range.2 (by omega), by omega⟩)
      simpa using this
    exact Nat.lt_of_le_of_lt this hl
  have e44 : H44 Ar.std (eSpecs S) (eCalls h) (eNats l) = some (true, 0) := by
    rw [eNats_eq, H44_eq S h hs hl (cN l) hll]; simp [isOrdR, he0, isOrd_M, hlm]
  have hnf : (!(l :: r : List (List Nat)).isEmpty) = true := rfl
  rw [hnf, cond_true, bsome]
  dsimp only
  rw [e44, bsome]
  dsimp only
  rw [z0, cond_true, cond_true, Bool.not_true, bsome, cond_false]
  have g0 : gc Ar.std (cI .u8) (eBytes [x, y, z, w]) (Ar.std.nat 0) = some x := gcB (i := 0) rfl rfl
  have n101 : nk (Ar.std.zeq 101 0) = some () := rfl
  have n10 : nk (Ar.std.zeq 10 0) = some () := rfl
  have m0 := Int.emod_nonneg x (by decide : (101 : Int) ≠ 0)
  have m1 := Int.emod_lt_of_pos x (by decide : (0 : Int) < 101)
  have bq : btw 0 (x % 101) 100 = true := by rw [btw_true]; omega
  have e2 : H45 Ar.std (eCalls h) (x % 101) = some (eCalls (untH h (x % 101)), 0) := by rw [H45_eq hl]; simp only [untR, hv, bq, cond_true]
  have hlin : (!(ords0 S (untH h (x % 101))).isEmpty) = true := by
    simp only [Bool.not_eq_true', List.isEmpty_eq_false_iff]
    obtain ⟨L, hL⟩ := (lin_iff hv).1 hne
    exact (lin_iff (unt_valid hv _)).2 (unt_lin hv hL _)
  rw [g0, bsome, n101, bsome, mod101 hx, e2, bsome]
  dsimp only
  rw [lin_of hs ha (unt_for hf _), bsome]
  dsimp only
  rw [z0, cond_true, cond_true, hlin, Bool.not_true, bsome, cond_false, len_enc, std_zeq]
  by_cases hz0 : (h.length : Int) = 0
  · rw [decide_eq_true hz0]; rfl
  · rw [decide_eq_false hz0, cond_false]
    have g1 : gc Ar.std (cI .u8) (eBytes [x, y, z, w]) (Ar.std.nat (Ar.std.zadd 0 (Int.ofNat 1))) = some y := gcB (i := 1) rfl rfl
    have g2 : gc Ar.std (cI .u8) (eBytes [x, y, z, w]) (Ar.std.nat (Ar.std.zadd 0 (Int.ofNat 2))) = some z := gcB (i := 2) rfl rfl
    have g3 : gc Ar.std (cI .u8) (eBytes [x, y, z, w]) (Ar.std.nat (Ar.std.zadd 0 (Int.ofNat 3))) = some w := gcB (i := 3) rfl rfl
    have hi : Ar.std.rem (Ar.std.wrp .i64 y) (h.length : Int) = y % (h.length : Int) := by
      rw [std_wrp, i64w y (by omega) (by omega), std_rem, Int.tmod_eq_emod_of_nonneg hy.1]
    rw [g1, bsome, hi]
    generalize hj : y % (h.length : Int) = j
    have hj0 : 0 ≤ j := by rw [← hj]; exact Int.emod_nonneg _ hz0
    have hj1 : j < (h.length : Int) := by rw [← hj]; exact Int.emod_lt_of_pos _ (by omega)
    have hjl : j.toNat < h.length := by omega
    have hc := List.getElem?_eq_getElem hjl
    generalize h[j.toNat] = c at hc
    have nk0 : nk false = some () := rfl
    rw [nk0, bsome, gt_encI hj0 hc, bsome]
    rw [g2, bsome, n10, bsome, g3, bsome, bsome]
    generalize hb : Ar.std.zmax (Ar.std.wrp .i64 (Ar.std.zsub c.2.2.2.2.1 (Ar.std.rem (Ar.std.wrp .i64 z) 10))) 1 = b
    generalize he : Ar.std.wrp .i64 (Ar.std.zadd c.2.2.2.2.2 (Ar.std.rem (Ar.std.wrp .i64 w) 10)) = e
    rw [H41_eq h (by omega), bsome]
    dsimp only
    rcases longR_cases hv j b e with e1 | ⟨e1, hbad, hv2⟩
    · rw [e1]; rfl
    · rw [e1]
      have hf2 := long_for hf hbad hv2
      have hcount := long_count (S := S) hv hbad hv2
      have he2 : errH S (longH h j b e) = 0 := by simp [errH, ha, hf2]
      have hl2 : (longH h j b e).length < Lg := by rw [longH_len]; exact hl
      have hord : isOrdM S (longH h j b e) bef (cN l) = true := wider_ord (longH_len h j b e) (long_wider hok hbad) hlm
      have e46 : H46 Ar.std (eSpecs S) (eCalls (longH h j b e)) (eNats l) = some (true, 0) := by
        rw [eNats_eq, H46_eq S _ hs hl2 (cN l) hll]; simp [isOrdR, he2, isOrd_M, hord]
      have hne2 : (!(ords0 S (longH h j b e)).isEmpty) = true := by
        cases hemp2 : (ords0 S (longH h j b e)) with
        | nil => rw [ho, hemp2] at hcount; simp at hcount
        | cons a' r' => rfl
      rw [z0, cond_true, lin_of hs ha hf2, bsome]
      dsimp only
      rw [e46, bsome]
      dsimp only
      rw [z0, cond_true, cond_true, hne2, cond_true, cond_true, bsome]
      rfl
end Go.Am
