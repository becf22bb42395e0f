/- Own text: EL4. -/
import Derived.Test.YtalfdjihejohoaaEL2
import Derived.Test.YtalfdjihejohoaaGenp0
set_option maxRecDepth 100000
set_option linter.unusedVariables false
set_option linter.unusedSimpArgs false
set_option linter.unusedSectionVars false
namespace Go.Am
open Go Go.Proofs
theorem and1_i64 (a : Nat) (ha : a < 2 ^ 62) : bitsStd .and .i64 (a : Int) 1 = ((a &&& 1 : Nat) : Int) := by
  have bv : ∀ n : Nat, n < 2 ^ 62 → (BitVec.ofInt 64 (n : Int)).toNat = n := fun n h => by
    rw [BitVec.toNat_ofInt]; simp; omega
  have h1 : a &&& 1 ≤ 1 := Nat.and_le_right
  show IntKind.i64.wrap ((BitVec.ofInt 64 (a : Int) &&& BitVec.ofInt 64 ((1 : Nat) : Int)).toNat : Int) = _
  rw [BitVec.toNat_and, bv a ha, bv 1 (by decide)]
  exact i64w _ (by omega) (by omega)
theorem bit_i64 (m i : Nat) (hm : m < 2 ^ 62) (hi : i ≤ 62) : decide (bitsStd .and .i64 ((m : Int).fdiv (2 ^ (min ((i : Int).toNat) IntKind.i64.bits))) 1 = 1) = m.testBit i := by
  have hb : IntKind.i64.bits = 64 := rfl
  have e : ((m : Int).fdiv (2 ^ (min ((i : Int).toNat) IntKind.i64.bits))) = ((m / 2 ^ i : Nat) : Int) := by
    rw [hb, Int.toNat_natCast, Nat.min_eq_left (by omega), Int.fdiv_eq_ediv_of_nonneg _ (by exact Int.pow_nonneg (by decide))]
    push_cast; rfl
  have hlt : m / 2 ^ i < 2 ^ 62 := Nat.lt_of_le_of_lt (Nat.div_le_self _ _) hm
  rw [e, and1_i64 _ hlt, Nat.testBit_eq_decide_div_mod_eq, Nat.and_one_is_mod]
  refine decide_eq_decide.2 ⟨fun h => ?_, fun h => ?_⟩ <;> omega
abbrev codF : Cod Fen := cG (lc (cI .i64) (l1 (cI .i64)))
theorem un_fen (a : Fen) : codF.un (dFen a) = some a := by simp [dFen, I]
theorem gt_fen {l : List Fen} {i : Nat} {a : Fen} (h : l[i]? = some a) : gt Ar.std codF (l.map dFen) (i : Int) = some a := by rw [gt_at h, un_fen]
theorem ltF {l : List Fen} {i : Nat} (h : i < l.length) : Ar.std.zlt (i : Int) (Ar.std.len (l.map dFen)) = true := by simp; omega
theorem geF {l : List Fen} : Ar.std.zlt (l.length : Int) (Ar.std.len (l.map dFen)) = false := by simp
theorem incF {i n : Nat} (h : i < n) (hn : n < 9223372036854775808) : Ar.std.wrp .i64 (Ar.std.zadd (i : Int) 1) = ((i + 1 : Nat) : Int) := i64w1 h hn
theorem E99L0_eq (r : List Fen) (hr : r.length ≤ 61) (i : Nat) (hi : i < 2 ^ 62) : iter (E99L0 Ar.std (r.map dFen) (i : Int)) ([], 0) = some ((pickL i 0 r).map dFen) := by
  have key := iter_pre (step := E99L0 Ar.std (r.map dFen) (i : Int)) r (fun pre => pickL i 0 pre) (fun s k => (s.map dFen, (k : Int))) (fun s => s.map dFen)
    (fun k a ha hk => by
      have hle : (pickL i 0 (r.take k)).length ≤ 61 := Nat.le_trans (pickL_sub i _ 0).length_le (by simp; omega)
      have hn : nk (Ar.std.zlt (k : Int) 0) = some () := by
        have : Ar.std.zlt (k : Int) 0 = false := by simp
        rw [this]; rfl
      have hbit : Ar.std.zeq (Ar.std.bits .and .i64 (Ar.std.shr .i64 (i : Int) (k : Int)) 1) 1 = i.testBit k := bit_i64 i k hi (by omega)
      have hap : ap Ar.std ((pickL i 0 (r.take k)).map dFen) [.agg [.int .i64 a.1, .int .i64 a.2]] = some ((pickL i 0 (r.take k) ++ [a]).map dFen) := ap_one dFen _ a _ rfl (by omega)
      have htk : (r.take k).length = k := by simp; omega
      unfold E99L0
      try dsimp only
      rw [ltF hk, cond_true, gt_fen ha, bsome]
      try dsimp only
      rw [hn, bsome, hbit, incF hk (by omega), pickL_snoc, Nat.zero_add, htk]
      cases i.testBit k with
      | true => rw [cond_true, hap, bsome, bsome]; rfl
      | false => rw [cond_false, bsome, cond_false, List.append_nil])
    (by
      unfold E99L0
      try dsimp only
      rw [geF, cond_false])
  exact key
theorem E109_some (a b : Int) : ∃ r, E109 Ar.std a b = some r := by
  unfold E109 E134
  simp only [bsome, std_zeq, decide_true, Bool.not_true, cond_false]
  cases Ar.std.zlt a b <;> cases Ar.std.zlt b a <;> exact ⟨_, rfl⟩
theorem E139_some (l : List Int) (hl : l.length < 9223372036854775808) : ∃ r, E139 Ar.std (l.map I) = some r := by
  have key := iter_relE (step := E139L0 Ar.std (l.map I)) l.length (fun (_ : Unit) i => (i : Int)) (fun _ _ => True) (fun _ _ => True) (fun _ => .inl ())
    (fun i s hi _ => by
      have hg : gt Ar.std (cI .i64) (l.map I) (i : Int) = some l[i] := by rw [gt_at (List.getElem?_eq_getElem hi)]; simp [I]
      have hlt : Ar.std.zlt (i : Int) (Ar.std.len (l.map I)) = true := by simp; omega
      unfold E139L0
      rw [hlt, cond_true, hg, bsome, incF hi hl]
      cases Ar.std.zeq l[i] 0 with
      | true => exact .inl ⟨(), trivial, rfl⟩
      | false => exact .inr ⟨_, trivial, rfl⟩)
    (fun s _ => by
      have hge : Ar.std.zlt (l.length : Int) (Ar.std.len (l.map I)) = false := by simp
      unfold E139L0
      rw [hge, cond_false]) () trivial
  unfold E139
  rcases key with ⟨_, _, h⟩ | ⟨i, x, _, _, h⟩
  · rw [show (0 : Int) = ((0 : Nat) : Int) from rfl, h]; exact ⟨_, rfl⟩
  · rw [show (0 : Int) = ((0 : Nat) : Int) from rfl, h]
    cases x <;> exact ⟨_, rfl⟩
theorem E138_some (a b c d : Int) : ∃ r, E138 Ar.std a b c d = some r := by
  obtain ⟨r1, h1⟩ := E109_some a c
  obtain ⟨r2, h2⟩ := E109_some b d
  obtain ⟨r3, h3⟩ := E139_some [r1, r2] (by simp)
  unfold E138
  rw [h1, bsome, h2, bsome]
  have : E139 Ar.std [.int .i64 r1, .int .i64 r2] = some r3 := h3
  rw [this]; exact ⟨_, rfl⟩
theorem E130_some (l m : List Fen) (hl : l.length < 9223372036854775808) : ∃ r, E130 Ar.std (l.map dFen) (m.map dFen) = some r := by
  have key := iter_relE (step := E137L0 Ar.std (l.map dFen) (m.map dFen)) l.length (fun (_ : Unit) i => (i : Int)) (fun _ _ => True) (fun _ _ => True) (fun _ => .inl ())
    (fun i s hi _ => by
      unfold E137L0
      try dsimp only
      rw [ltF hi, cond_true, gt_fen (List.getElem?_eq_getElem hi), bsome]
      try dsimp only
      cases hz : Ar.std.zle (Ar.std.len (m.map dFen)) (i : Int) with
      | true => exact .inr ⟨_, trivial, rfl⟩
      | false =>
        have hm : i < m.length := by simp at hz; omega
        rw [cond_false, gt_fen (List.getElem?_eq_getElem hm), bsome]
        try dsimp only
        obtain ⟨r, hr⟩ := E138_some l[i].1 l[i].2 m[i].1 m[i].2
        rw [hr, bsome, incF hi hl]
        cases Ar.std.zeq r 0 with
        | true => exact .inl ⟨(), trivial, rfl⟩
        | false => exact .inr ⟨_, trivial, rfl⟩)
    (fun s _ => by
      unfold E137L0
      try dsimp only
      rw [geF, cond_false]) () trivial
  unfold E130 E137
  rcases key with ⟨_, _, h⟩ | ⟨i, x, _, _, h⟩
  · rw [show (0 : Int) = ((0 : Nat) : Int) from rfl, h, bsome, Sum.elim_inl]
    cases Ar.std.zlt (Ar.std.len (l.map dFen)) (Ar.std.len (m.map dFen)) <;> exact ⟨_, rfl⟩
  · rw [show (0 : Int) = ((0 : Nat) : Int) from rfl, h]
    cases x with
    | inl _ =>
      rw [bsome, Sum.elim_inl]
      cases Ar.std.zlt (Ar.std.len (l.map dFen)) (Ar.std.len (m.map dFen)) <;> exact ⟨_, rfl⟩
    | inr _ => exact ⟨_, rfl⟩
theorem E91_eq (l : List Fen) (p : List Sta) (hl : l.length ≤ 1000000000) (hp : p.length ≤ 1000000000) : E91 Ar.std (l.map dFen) (p.map dSta) = some (enoughF l p) := by
  unfold E91 ofF
  rw [dec_eq dFen_inj (show LenOk 1000000000 l from hl), bsome, dec_eq dSta_inj' (show LenOk 1000000000 p from hp)]; rfl
theorem E94_eq (c : List (List Int)) (l : List Fen) (hc : CostOk c) (hl : l.length ≤ 1000000000) (h9 : ∀ r ∈ c, ∀ n ∈ r, 0 ≤ n ∧ n ≤ 9) (hin : ∀ f ∈ l, inCost c f) : E94 Ar.std (c.map dRow) (l.map dFen) = some (costF c l) := by
  unfold E94 ofF ofC
  rw [dec_eq dRow_inj hc, bsome, dec_eq dFen_inj (show LenOk 1000000000 l from hl), bsome, if_pos ⟨h9, hin⟩]
section
variable {x : List (List Acc)} {c : List (List Int)} {q : List Sta} (hS : Small x ∧ (stations x).length ≤ 4000000000) (hm : (fencesL x).length ≤ 61) (hc : CostOk c) (hp : pricedB x c = true)
    (hq : q.length ≤ 1000000000) (hall : enoughF (fencesL x) q = true)
include hS hm hc hp hq hall
theorem E99_eq : ∃ S, S.Sublist (fencesL x) ∧ enoughF S q = true ∧ (∀ S', S'.Sublist (fencesL x) → enoughF S' q = true → costF c S ≤ costF c S') ∧
    E99 Ar.std (x.map dAccs) (c.map dRow) (q.map dSta) = some (S.map dFen) := by
  have e104 : E104 Ar.std (x.map dAccs) = some ((fencesL x).map dFen) := by
    unfold E104 ofS; rw [dec_eq dAccs_inj hS]; rfl
  obtain ⟨r, hr⟩ : ∃ r, fencesL x = r := ⟨_, rfl⟩
  have hin : ∀ f ∈ r, inCost c f := fun f hf => inCost_of hp (hr ▸ hf)
  have h9 := priced_09 hp
  rw [hr] at hm hall e104 ⊢
  have hpk : ∀ i, (pickL i 0 r).length ≤ 61 := fun i => Nat.le_trans (pickL_sub i r 0).length_le hm
  have h62 : 2 ^ r.length < 2 ^ 62 := Nat.pow_lt_pow_right (by decide) (by omega)
  have h62' : (2 : Nat) ^ 62 = 4611686018427387904 := by decide
  have hshl : Ar.std.shl .i64 1 (Ar.std.len (r.map dFen)) = ((2 ^ r.length : Nat) : Int) := by
    rw [std_shl, std_len, List.length_map, Int.toNat_natCast, show IntKind.i64.bits = 64 from rfl, Nat.min_eq_left (by omega), Int.one_mul]
    rw [i64w _ (by have : (0 : Int) ≤ 2 ^ r.length := Int.pow_nonneg (by decide); omega) (by
      have : ((2 ^ r.length : Nat) : Int) = (2 : Int) ^ r.length := by push_cast; rfl
      rw [← this]; omega)]
    push_cast; rfl
  have key := iter_rel (step := E99L1 Ar.std (c.map dRow) (q.map dSta) (r.map dFen)) (2 ^ r.length) (fun (s : List Fen × Int × Bool) i => (s.1.map dFen, s.2.1, s.2.2, (i : Int)))
    (fun i s => (s.2.2 = false → ∀ j, j < i → enoughF (pickL j 0 r) q = false) ∧
      (s.2.2 = true → s.1.Sublist r ∧ enoughF s.1 q = true ∧ s.2.1 = costF c s.1 ∧ ∀ j, j < i → enoughF (pickL j 0 r) q = true → s.2.1 ≤ costF c (pickL j 0 r)))
    (fun s => s.1.map dFen)
    (fun i s hi ⟨hR0, hR1⟩ => by
      obtain ⟨best, co, hv⟩ := s
      dsimp only at hR0 hR1 ⊢
      have hlt : Ar.std.zlt (i : Int) (Ar.std.shl .i64 1 (Ar.std.len (r.map dFen))) = true := by
        rw [hshl, std_zlt]; exact decide_eq_true (by omega)
      have e94 : E94 Ar.std (c.map dRow) ((pickL i 0 r).map dFen) = some (costF c (pickL i 0 r)) := E94_eq c _ hc (Nat.le_trans (hpk i) (by decide)) h9 (fun f hf => hin f ((pickL_sub i r 0).subset hf))
      have hinc : Ar.std.wrp .i64 (Ar.std.zadd (i : Int) 1) = ((i + 1 : Nat) : Int) := incF hi (by omega)
      unfold E99L1
      try dsimp only
      rw [hlt, cond_true, E99L0_eq r hm i (by omega), bsome, E91_eq _ q (Nat.le_trans (hpk i) (by decide)) hq, bsome, hinc]
      cases hen : enoughF (pickL i 0 r) q with
      | false =>
        rw [cond_false, bsome]
        refine ⟨(best, co, hv), ⟨fun h j hj => ?_, fun h => ?_⟩, rfl⟩
        · rcases Nat.lt_succ_iff_lt_or_eq.1 hj with hj | rfl
          · exact hR0 h j hj
          · exact hen
        · obtain ⟨a1, a2, a3, a4⟩ := hR1 h
          refine ⟨a1, a2, a3, fun j hj hj2 => ?_⟩
          rcases Nat.lt_succ_iff_lt_or_eq.1 hj with hj | rfl
          · exact a4 j hj hj2
          · rw [hen] at hj2; cases hj2
      | true =>
        rw [cond_true, e94, bsome]
        have take : ∀ (old : hv = true → costF c (pickL i 0 r) ≤ co), ∃ s' : List Fen × Int × Bool,
            ((s'.2.2 = false → ∀ j, j < i + 1 → enoughF (pickL j 0 r) q = false) ∧ (s'.2.2 = true → s'.1.Sublist r ∧ enoughF s'.1 q = true ∧ s'.2.1 = costF c s'.1 ∧ ∀ j, j < i + 1 → enoughF (pickL j 0 r) q = true → s'.2.1 ≤ costF c (pickL j 0 r))) ∧
            (some (Sum.inl ((pickL i 0 r).map dFen, costF c (pickL i 0 r), true, ((i + 1 : Nat) : Int))) : Option ((List D × Int × Bool × Int) ⊕ List D)) = some (.inl (s'.1.map dFen, s'.2.1, s'.2.2, ((i + 1 : Nat) : Int))) := fun old => by
          refine ⟨(pickL i 0 r, costF c (pickL i 0 r), true), ⟨fun h => (by cases h), fun _ => ⟨pickL_sub i r 0, hen, rfl, fun j hj hj2 => ?_⟩⟩, rfl⟩
          rcases Nat.lt_succ_iff_lt_or_eq.1 hj with hj | rfl
          · cases hv with
            | false => rw [hR0 rfl j hj] at hj2; cases hj2
            | true => exact Int.le_trans (old rfl) ((hR1 rfl).2.2.2 j hj hj2)
          · exact Int.le_refl _
        have keep : hv = true → co ≤ costF c (pickL i 0 r) → ∃ s' : List Fen × Int × Bool,
            ((s'.2.2 = false → ∀ j, j < i + 1 → enoughF (pickL j 0 r) q = false) ∧ (s'.2.2 = true → s'.1.Sublist r ∧ enoughF s'.1 q = true ∧ s'.2.1 = costF c s'.1 ∧ ∀ j, j < i + 1 → enoughF (pickL j 0 r) q = true → s'.2.1 ≤ costF c (pickL j 0 r))) ∧
            (some (Sum.inl (best.map dFen, co, true, ((i + 1 : Nat) : Int))) : Option ((List D × Int × Bool × Int) ⊕ List D)) = some (.inl (s'.1.map dFen, s'.2.1, s'.2.2, ((i + 1 : Nat) : Int))) := fun hvt old => by
          obtain ⟨a1, a2, a3, a4⟩ := hR1 hvt
          refine ⟨(best, co, true), ⟨fun h => (by cases h), fun _ => ⟨a1, a2, a3, fun j hj hj2 => ?_⟩⟩, rfl⟩
          rcases Nat.lt_succ_iff_lt_or_eq.1 hj with hj | rfl
          · exact a4 j hj hj2
          · exact old
        cases hv with
        | false => exact take (fun h => (by cases h))
        | true =>
          rw [cond_true]
          cases h1 : Ar.std.zlt (costF c (pickL i 0 r)) co with
          | true =>
            rw [std_zlt, decide_eq_true_eq] at h1
            exact take (fun _ => by omega)
          | false =>
            rw [std_zlt, decide_eq_false_iff_not] at h1
            rw [cond_false]
            cases h2 : Ar.std.zeq (costF c (pickL i 0 r)) co with
            | false => exact keep rfl (by omega)
            | true =>
              rw [std_zeq, decide_eq_true_eq] at h2
              obtain ⟨z, hz⟩ := E130_some (pickL i 0 r) best (by have := hpk i; omega)
              rw [cond_true, hz, bsome, bsome]
              cases Ar.std.zlt z 0 with
              | true => exact take (fun _ => by omega)
              | false => exact keep rfl (by omega))
    (fun s _ => by
      have hge : Ar.std.zlt ((2 ^ r.length : Nat) : Int) (Ar.std.shl .i64 1 (Ar.std.len (r.map dFen))) = false := by
        rw [hshl, std_zlt]; exact decide_eq_false (by omega)
      unfold E99L1
      try dsimp only
      rw [hge, cond_false])
    ([], 0, false) ⟨fun _ j hj => absurd hj (Nat.not_lt_zero j), fun h => (by cases h)⟩
  obtain ⟨s, ⟨hR0, hR1⟩, hit⟩ := key
  have hpick : ∀ S : List Fen, S.Sublist r → ∃ j, j < 2 ^ r.length ∧ pickL j 0 r = S := fun S hs => by
    obtain ⟨j, h1, _, h3⟩ := pickL_all r S 0 hs
    exact ⟨j, by simpa using h1, h3⟩
  have hvt : s.2.2 = true := by
    cases hv : s.2.2 with
    | true => rfl
    | false =>
      obtain ⟨j, hj, e⟩ := hpick r (List.Sublist.refl r)
      have := hR0 hv j hj
      rw [e, hall] at this; cases this
  obtain ⟨a1, a2, a3, a4⟩ := hR1 hvt
  refine ⟨s.1, a1, a2, fun S' hs he => ?_, ?_⟩
  · obtain ⟨j, hj, rfl⟩ := hpick S' hs
    rw [← a3]; exact a4 j hj he
  · have hn : nk (Ar.std.zlt (Ar.std.len (r.map dFen)) 0) = some () := by
      have : Ar.std.zlt (Ar.std.len (r.map dFen)) 0 = false := by simp
      rw [this]; rfl
    unfold E99
    rw [e104, bsome, hn, bsome]
    have : iter (E99L1 Ar.std (c.map dRow) (q.map dSta) (r.map dFen)) ([], 0, false, 0) = some (s.1.map dFen) := hit
    rw [this, bsome]
end
end Go.Am

set_option maxRecDepth 100000
set_option linter.unusedVariables false
set_option linter.unusedSimpArgs false
set_option linter.unusedSectionVars false
namespace Go.Am
open Go Go.Proofs
theorem valid_rows {x : List (List Acc)} (hv : valid x = true) : 1 ≤ x.length ∧ x.length ≤ 3 ∧ ∀ l ∈ x, l.length ≤ 4 := by
  unfold valid at hv
  simp only [Bool.and_eq_true, Bool.not_eq_true', decide_eq_true_eq] at hv
  refine ⟨by omega, by omega, fun l hl => ?_⟩
  have := List.any_eq_false.1 hv.2 l hl
  unfold badL at this
  simp only [Bool.or_eq_true, decide_eq_true_eq, not_or] at this
  omega
theorem valid_sm {x : List (List Acc)} (hv : valid x = true) : Small x ∧ (stations x).length ≤ 4000000000 := by
  obtain ⟨_, h2, h3⟩ := valid_rows hv
  have hs : Small x := ⟨by omega, fun l hl => by have := h3 l hl; omega⟩
  exact ⟨hs, Nat.le_trans (stations_length hs) (by decide)⟩
theorem valid_bg {x : List (List Acc)} (hv : valid x = true) : Big x := by
  obtain ⟨_, h2, h3⟩ := valid_rows hv
  exact ⟨by omega, fun l hl => by have := h3 l hl; omega⟩
theorem fences_le {x : List (List Acc)} (hv : valid x = true) : (fencesL x).length ≤ 61 := by
  obtain ⟨_, h2, h3⟩ := valid_rows hv
  have := length_le_of_nodup (fencesL_nodup x) (m := (List.range 3).flatMap fun t => (List.range 3).map fun g => (((t : Nat) : Int), ((g : Nat) : Int))) (fun f hf => by
    obtain ⟨a1, a2, a3, a4⟩ := mem_fencesL.1 hf
    have hlt : f.1.toNat < x.length := by omega
    have hr : (x.getD f.1.toNat []).length ≤ 4 := by
      rw [List.getD_eq_getElem?_getD, List.getElem?_eq_getElem hlt]
      exact h3 _ (List.getElem_mem hlt)
    unfold rl at a4
    refine List.mem_flatMap.2 ⟨f.1.toNat, List.mem_range.2 (by omega), List.mem_map.2 ⟨f.2.toNat, List.mem_range.2 (by omega), ?_⟩⟩
    obtain ⟨t, g⟩ := f
    simp only [Prod.mk.injEq]
    dsimp only at *
    omega)
  have h9 : ((List.range 3).flatMap fun t => (List.range 3).map fun g => (((t : Nat) : Int), ((g : Nat) : Int))).length = 9 := by decide
  omega
theorem all_enough (x : List (List Acc)) : enoughF (fencesL x) (neededL x) = true := by
  unfold enoughF
  rw [List.all_eq_true]
  intro s hs
  obtain ⟨h1, h2, _⟩ := (mem_needed_iff x).1 hs
  obtain ⟨i1, i2, i3, i4, i5, _⟩ := mem_stations_iff.1 h1
  have hlt : s.2.1 < s.2.2 := by
    unfold isPair at h2
    simp only [Bool.and_eq_true, decide_eq_true_eq] at h2
    exact h2.1.1.1
  unfold heldF
  rw [List.any_eq_true]
  refine ⟨(s.1, s.2.1), mem_fencesL.2 ⟨i1, i2, i3, ?_⟩, ?_⟩
  · show s.2.1 < rl x s.1 - 1
    unfold rl; omega
  · unfold holdsF
    simp only [Bool.and_eq_true, decide_eq_true_eq]
    exact ⟨⟨trivial, Int.le_refl _⟩, hlt⟩
theorem cost_okC {x : List (List Acc)} {c : List (List Int)} (hv : valid x = true) (hp : pricedB x c = true) : CostOk c := by
  obtain ⟨_, h2, h3⟩ := valid_rows hv
  obtain ⟨g1, g2⟩ := priced_row hp
  refine ⟨by omega, fun r hr => ?_⟩
  obtain ⟨i, hi, rfl⟩ := List.getElem_of_mem hr
  have := (g2 i _ (List.getElem?_eq_getElem hi)).1
  have hlt : i < x.length := by omega
  have hr : (x.getD i []).length ≤ 4 := by
    rw [List.getD_eq_getElem?_getD, List.getElem?_eq_getElem hlt]
    exact h3 _ (List.getElem_mem hlt)
  omega
theorem needed_len {x : List (List Acc)} (hv : valid x = true) : (neededL x).length ≤ 1000000000 := by
  refine Nat.le_trans ?_ (stations_length (valid_sm hv).1)
  unfold neededL pairsL
  exact Nat.le_trans (List.length_filter_le _ _) (List.length_filter_le _ _)
theorem E52_eq {x : List (List Acc)} {c : List (List Int)} (hv : valid x = true) (hp : pricedB x c = true) : ∃ v, Least x c v ∧ E52 Ar.std (x.map dAccs) (c.map dRow) = some (v, 0) := by
  have hS := valid_sm hv
  have hc := cost_okC hv hp
  obtain ⟨S, h1, h2, h3, h4⟩ := E99_eq hS (fences_le hv) hc hp (needed_len hv) (all_enough x)
  refine ⟨costF c S, ⟨⟨S, h1, h2, rfl⟩, h3⟩, ?_⟩
  have e98 : E98 Ar.std (x.map dAccs) (c.map dRow) = some 0 := by
    unfold E98 E20 E93 ofX ofS ofC
    rw [dec_eq dAccs_inj (valid_bg hv), Option.map_some, bsome, hv, cond_true, dec_eq dAccs_inj hS, bsome, dec_eq dRow_inj hc, Option.map_some, bsome, hp]; rfl
  have e77 : E77 Ar.std (x.map dAccs) = some ((neededL x).map dSta) := by
    unfold E77 ofS; rw [dec_eq dAccs_inj hS]; rfl
  have hl : S.length ≤ 1000000000 := Nat.le_trans h1.length_le (Nat.le_trans (fences_le hv) (by decide))
  have z0 : Ar.std.zeq 0 0 = true := rfl
  unfold E52
  rw [e98, bsome, z0, cond_true, e77, bsome, h4, bsome, E94_eq c S hc hl (priced_09 hp) (fun f hf => inCost_of hp (h1.subset hf)), bsome]
theorem gtI1 {l : List Int} {i : Nat} {a : Int} (h : l[i]? = some a) : gt Ar.std (cI .i64) (l.map I) (i : Int) = some a := by rw [gt_at h]; simp [I]
theorem gt_row {l : List (List Int)} {i : Nat} {a : List Int} (h : l[i]? = some a) : gt Ar.std (cL 1) (l.map dRow) (i : Int) = some (a.map I) := by rw [gt_at h]; simp [dRow]
theorem gt_acc {l : List (List Acc)} {i : Nat} {a : List Acc} (h : l[i]? = some a) : gt Ar.std (cL 2) (l.map dAccs) (i : Int) = some (a.map dAcc) := by rw [gt_at h]; simp [dAccs]
theorem ltM {α : Type} {f : α → D} {l : List α} {i : Nat} (h : i < l.length) : Ar.std.zlt (i : Int) (Ar.std.len (l.map f)) = true := by simp; omega
theorem geM {α : Type} {f : α → D} {l : List α} : Ar.std.zlt (l.length : Int) (Ar.std.len (l.map f)) = false := by simp
theorem E50L0_eq (r : List Int) (hr : r.length < 9223372036854775808) : iter (E50L0 Ar.std (r.map I)) 0 = some (bif r.all in19 then .inl () else .inr ()) := by
  have := iter_any (step := E50L0 Ar.std (r.map I)) r (fun n => !in19 n) (.inr ()) (.inl ()) (fun i a ha hi => by
      unfold E50L0
      try dsimp only
      rw [ltM hi, cond_true, gtI1 ha, bsome, incF hi hr]
      have hb : (bif Ar.std.zlt a 1 then some true else some (Ar.std.zlt 9 a) : Option Bool) = some (!in19 a) := by
        unfold in19
        simp only [std_zlt]
        by_cases h1 : a < 1
        · have : ¬ 1 ≤ a := by omega
          simp [h1, this]
        · have h2 : 1 ≤ a := by omega
          by_cases h3 : 9 < a
          · have : ¬ a ≤ 9 := by omega
            simp [h1, h2, h3, this]
          · have : a ≤ 9 := by omega
            simp [h1, h2, h3, this]
      rw [hb, bsome]
      cases in19 a <;> rfl) (by
      unfold E50L0
      try dsimp only
      rw [geM, cond_false])
  rw [this]
  have hall : r.all in19 = !(r.any fun n => !in19 n) := by rw [List.not_any_eq_all_not]; simp
  rw [hall]
  cases r.any fun n => !in19 n <;> rfl
theorem E50_eq (x : List (List Acc)) (c : List (List Int)) (hx : Small x) (hc : c.length ≤ 9223372036854775807) (hr : ∀ r ∈ c, r.length ≤ 9223372036854775807) : E50 Ar.std (x.map dAccs) (c.map dRow) = some (pricedB x c) := by
  unfold E50 pricedB
  simp only [std_len, List.length_map, std_zeq]
  by_cases hlen : c.length = x.length
  · have h1 : ((c.length : Nat) : Int) = (x.length : Int) := by omega
    rw [decide_eq_true h1, decide_eq_true hlen, cond_true, Bool.and_true]
    have key := iter_rng (step := E50L1 Ar.std (x.map dAccs) (c.map dRow)) c.length (fun t => !prAt x c t) (.inr ()) (.inl ()) (fun t ht => by
      have hcr := List.getElem?_eq_getElem ht
      have htx : t < x.length := by omega
      have hxr := List.getElem?_eq_getElem htx
      have hrl := hr _ (List.getElem_mem ht)
      have hxl := hx.2 _ (List.getElem_mem htx)
      have e1 : c.getD t [] = c[t] := by rw [List.getD_eq_getElem?_getD, hcr]; rfl
      have e2 : x.getD t [] = x[t] := by rw [List.getD_eq_getElem?_getD, hxr]; rfl
      unfold E50L1 prAt
      try dsimp only
      rw [ltM ht, cond_true, gt_row hcr, bsome, gt_acc hxr, bsome, e1, e2, decide_eq_true htx, Bool.true_and]
      generalize c[t] = r at *
      generalize x[t] = row at *
      have hz : Ar.std.zeq (Ar.std.len (r.map I)) (Ar.std.zmax (Ar.std.wrp .i64 (Ar.std.zsub (Ar.std.len (row.map dAcc)) 1)) 0) = decide (r.length = row.length - 1) := by
        simp only [std_len, List.length_map, std_wrp, std_zsub, std_zmax, std_zeq]
        rw [i64w _ (by omega) (by omega)]
        refine decide_eq_decide.2 ?_
        split <;> omega
      rw [hz, incF ht (by omega)]
      cases decide (r.length = row.length - 1) with
      | false => rfl
      | true =>
        rw [cond_true, E50L0_eq r (by omega), bsome, Bool.true_and]
        cases r.all in19 <;> rfl) (by
      unfold E50L1
      try dsimp only
      rw [geM, cond_false])
    rw [key, bsome]
    have hall : (List.range c.length).all (prAt x c) = !((List.range c.length).any fun t => !prAt x c t) := by rw [List.not_any_eq_all_not]; simp
    rw [hall]
    cases (List.range c.length).any fun t => !prAt x c t <;> rfl
  · have h1 : ¬ ((c.length : Nat) : Int) = (x.length : Int) := by omega
    rw [decide_eq_false h1, decide_eq_false hlen, cond_false, Bool.and_false]
def renC (c : List (List Int)) (l : List Int) : List (List Int) := l.map fun n => c.getD n.toNat []
theorem E10L0_eq (c : List (List Int)) (l : List Int) (hl : l.length ≤ 1000) (hin : ∀ n ∈ l, 0 ≤ n ∧ n < (c.length : Int)) : iter (E10L0 Ar.std (c.map dRow) (l.map I)) ([], 0) = some ((renC c l).map dRow) := by
  have key := iter_pre (step := E10L0 Ar.std (c.map dRow) (l.map I)) l (fun pre => renC c pre) (fun s k => (s.map dRow, (k : Int))) (fun s => s.map dRow)
    (fun i a ha hi => by
      have ham := hin a (List.mem_of_getElem? ha)
      have hlt : a.toNat < c.length := by omega
      have hg : gt Ar.std (cL 1) (c.map dRow) a = some (c[a.toNat].map I) := by
        have := gt_row (List.getElem?_eq_getElem hlt)
        rwa [show ((a.toNat : Nat) : Int) = a by omega] at this
      have hle : (renC c (l.take i)).length ≤ 1000 := by unfold renC; simp; omega
      have hap : ap Ar.std ((renC c (l.take i)).map dRow) [.list 1 (c[a.toNat].map I)] = some ((renC c (l.take i) ++ [c[a.toNat]]).map dRow) := ap_one dRow _ _ _ rfl (by omega)
      have hre : renC c (l.take i ++ [a]) = renC c (l.take i) ++ [c[a.toNat]] := by
        unfold renC
        rw [List.map_append, List.map_cons, List.map_nil, List.getD_eq_getElem?_getD, List.getElem?_eq_getElem hlt]; rfl
      unfold E10L0
      try dsimp only
      rw [ltM hi, cond_true, gtI1 ha, bsome, hg, bsome, hap, bsome, incF hi (by omega), hre])
    (by
      unfold E10L0
      try dsimp only
      rw [geM, cond_false])
  exact key
section
variable {x : List (List Acc)} {c : List (List Int)} {l : List Int} (ht : threadsB x.length l = true) (hp : pricedB x c = true)
include ht hp
theorem renC_get {t : Nat} (h : t < l.length) : (renC c l)[t]? = c[(l.getD t 0).toNat]? := by
  have h2 := threads_at ht t h
  have hc := (priced_row hp).1
  unfold renC
  rw [List.getElem?_map, List.getElem?_eq_getElem h, Option.map_some]
  have e : l.getD t 0 = l[t] := by rw [List.getD_eq_getElem?_getD, List.getElem?_eq_getElem h]; rfl
  rw [← e, List.getD_eq_getElem?_getD, List.getElem?_eq_getElem (by omega)]; rfl
theorem priced_ren : pricedB (renamed x l) (renC c l) = true := by
  have hc := (priced_row hp).1
  have hll := threads_len ht
  unfold pricedB
  have hlen : (renC c l).length = l.length := by unfold renC; simp
  rw [Bool.and_eq_true, List.all_eq_true, decide_eq_true_eq, hlen, renamed_len ht]
  refine ⟨fun t h => ?_, hll⟩
  have h := List.mem_range.1 h
  have h2 := threads_at ht t h
  have g1 := renC_get ht hp h
  have g2 := renamed_get ht h
  have hlt : (l.getD t 0).toNat < c.length := by omega
  have hltx : (l.getD t 0).toNat < x.length := by omega
  have hp2 := hp
  unfold pricedB at hp2
  rw [Bool.and_eq_true, List.all_eq_true] at hp2
  have := hp2.1 _ (List.mem_range.2 hlt)
  unfold prAt at this ⊢
  have k1 : (renC c l).getD t [] = c.getD (l.getD t 0).toNat [] := by rw [List.getD_eq_getElem?_getD, g1, ← List.getD_eq_getElem?_getD]
  have k2 : (renamed x l).getD t [] = x.getD (l.getD t 0).toNat [] := by rw [List.getD_eq_getElem?_getD, g2, ← List.getD_eq_getElem?_getD]
  rw [k1, k2, renamed_len ht, decide_eq_true (show t < x.length by omega)]
  rw [decide_eq_true hltx] at this
  exact this
theorem least_ren {v w : Int} (hv : Least x c v) (hw : Least (renamed x l) (renC c l) w) : v = w := by
  have hll := threads_len ht
  have hc := (priced_row hp).1
  have hlen := renamed_len ht
  refine (ren_of ht).least (ren_back ht) (fun t h0 h1 => ?_) (fun t h0 h1 => ?_) (fun f hf => ?_) (fun f hf => ?_) hv hw
  · exact (plc_at ht h0 h1).2.2
  · have ha := threads_at ht t.toNat (by omega)
    have hb := plc_at ht ha.1 ha.2.1
    have := threads_inj ht (i := (plc l (l.getD t.toNat 0)).toNat) (j := t.toNat) (by omega) (by omega) hb.2.2
    show plc l (l.getD t.toNat 0) = t
    omega
  · obtain ⟨a1, a2, _⟩ := mem_fencesL.1 hf
    unfold priceF phiF
    try dsimp only
    have := renC_get ht hp (t := f.1.toNat) (by omega)
    rw [List.getD_eq_getElem?_getD (l := renC c l), this, ← List.getD_eq_getElem?_getD]
  · obtain ⟨a1, a2, _⟩ := mem_fencesL.1 hf
    unfold priceF phiF
    try dsimp only
    have hpl := plc_at ht a1 a2
    have := renC_get ht hp (t := (plc l f.1).toNat) (by omega)
    rw [List.getD_eq_getElem?_getD (l := renC c l), this, hpl.2.2, ← List.getD_eq_getElem?_getD]
end
theorem E10_ok (x : List (List Acc)) (c : List (List Int)) (l : List Int) (hx : Big x) (hc : c.length ≤ 9223372036854775807) (hcr : ∀ r ∈ c, r.length ≤ 9223372036854775807) (hl : l.length ≤ 9223372036854775807) :
    E10 Ar.std (x.map dAccs) (c.map dRow) (l.map I) = some true := by
  have e13 : E13 Ar.std (x.map dAccs) = some (long x) := by unfold E13 ofX; rw [dec_eq dAccs_inj hx]; rfl
  have e14 : E14 Ar.std (x.map dAccs) = some (valid x) := by unfold E14 ofX; rw [dec_eq dAccs_inj hx]; rfl
  unfold E10
  rw [e13, bsome]
  cases hlg : long x with
  | true => rfl
  | false =>
    rw [cond_false, e14, bsome]
    cases hv : valid x with
    | false => rfl
    | true =>
      have hS := valid_sm hv
      rw [cond_true, E50_eq x c hS.1 hc hcr, bsome]
      cases hp : pricedB x c with
      | false => rfl
      | true =>
        have hxl := valid_rows hv
        have e51 : E51 Ar.std (Ar.std.len (x.map dAccs)) (l.map I) = some (threadsB x.length l) := by
          unfold E51 ofI
          rw [std_len, List.length_map, if_pos (by omega), dec_eq I_inj (show LenOk 9223372036854775807 l from hl), Int.toNat_natCast]; rfl
        rw [cond_true, e51, bsome]
        cases ht : threadsB x.length l with
        | false => rfl
        | true =>
          have hll := threads_len ht
          have hcl := (priced_row hp).1
          have hin : ∀ n ∈ l, 0 ≤ n ∧ n < (c.length : Int) := fun n hn => by
            obtain ⟨i, hi, rfl⟩ := List.getElem_of_mem hn
            have := threads_at ht i hi
            rw [List.getD_eq_getElem?_getD, List.getElem?_eq_getElem hi, Option.getD_some] at this
            exact ⟨this.1, by omega⟩
          have hv2 := valid_renamed ht hv
          have hp2 := priced_ren ht hp
          have e48 : E48 Ar.std (x.map dAccs) (l.map I) = some ((renamed x l).map dAccs, 0) := by
            unfold E48 ofX ofI
            rw [dec_eq dAccs_inj hx, bsome, dec_eq I_inj (show LenOk 9223372036854775807 l from hl), Option.map_some]
            unfold renT
            rw [hv, if_pos rfl, ht, if_pos rfl]
          have e16 : E16 Ar.std (x.map dAccs) = some ((nCirc x : Int), 0) := by unfold E16 ofX; rw [dec_eq dAccs_inj hx, Option.map_some, hv, if_pos rfl]
          have e16' : E16 Ar.std ((renamed x l).map dAccs) = some ((nCirc x : Int), 0) := by
            unfold E16 ofX; rw [dec_eq dAccs_inj (valid_bg hv2), Option.map_some, hv2, if_pos rfl, nCirc_renamed ht]
          obtain ⟨v, hlv, e52⟩ := E52_eq hv hp
          obtain ⟨w, hlw, e52'⟩ := E52_eq hv2 hp2
          obtain rfl := least_ren ht hp hlv hlw
          have z0 : Ar.std.zeq 0 0 = true := rfl
          have zn : ∀ n : Int, Ar.std.zeq n n = true := fun n => by simp
          rw [Bool.not_true, bsome, cond_false, e48, bsome]
          try dsimp only
          rw [E10L0_eq c l (by omega) hin, bsome, e16, bsome]
          try dsimp only
          rw [e16', bsome]
          try dsimp only
          rw [e52, bsome]
          try dsimp only
          rw [e52', bsome]
          try dsimp only
          simp only [z0, zn, cond_true]
          rfl
end Go.Am
