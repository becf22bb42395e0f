/- Own text: RL60. -/
import Derived.Test.YtcnplegmmmobcaaRL58
set_option maxRecDepth 100000
set_option linter.unusedVariables false
set_option linter.unusedSimpArgs false
set_option linter.unusedSectionVars false
namespace Go.Am
open Go
theorem wi_sub {a b : Nat} (h : Wi a b) : (bl a).Sublist (bl b) := by
  unfold bl
  refine List.Sublist.trans (l₂ := ((List.range 6).filter fun i => b.testBit i).filter fun i => a.testBit i) ?_ List.filter_sublist
  rw [List.filter_filter]
  have : ((List.range 6).filter fun i => a.testBit i) = (List.range 6).filter fun i => a.testBit i && b.testBit i := List.filter_congr (fun i _ => by
    cases ha : a.testBit i with
    | false => rfl
    | true => rw [h.test ha]; rfl)
  rw [this]
  exact List.Sublist.refl _
theorem flat_sub {α β : Type} {f g : α → List β} : ∀ {l : List α}, (∀ a ∈ l, (f a).Sublist (g a)) → (l.flatMap f).Sublist (l.flatMap g)
  | [], _ => .slnil
  | a :: l, h => by rw [List.flatMap_cons, List.flatMap_cons]; exact (h a (by simp)).append (flat_sub (fun b hb => h b (by simp [hb])))
theorem prs_mono {f g : Nat → Nat} (h : subF f g) (n : Nat) : (prs n f).length ≤ (prs n g).length := by
  unfold prs
  exact (flat_sub fun x _ => (wi_sub (h x)).map _).length_le
section
variable {m m' m2 : Nat} {l l' l2 : List St3} (S : Sys m l) (S' : Sys m' l') (S2 : Sys m2 l2)
include S S' S2
theorem ref_trans (h1 : mem2 (bestF m l m' l') 0 0) (h2 : mem2 (bestF m' l' m2 l2) 0 0) : mem2 (bestF m l m2 l2) 0 0 := by
  have hpf := comp_pf (m := m) S' S2 (lt2 S'.le bestF_inB) (bestF_inB (m := m') (l := l') (m' := m2) (l' := l2)) (best_all S S') (best_all S' S2)
  have ho := comp_out (g := bestF m' l' m2 l2) fun i hi => bestF_out (m' := m') (l := l) (l' := l') S.le hi
  have hB := comp_ltB (f := bestF m l m' l') (bestF_inB (m := m') (l := l') (m' := m2) (l' := l2))
  exact ref_of S S2 ho hB hpf ((comp_mem (lt2 S'.le bestF_inB)).2 ⟨0, h1, h2⟩)
end
theorem own_all {m m' : Nat} {l l' : List St3} (S : Sys m l) (S' : Sys m' l') (h0 : mem2 (bestF m l m' l') 0 0) : ∀ x y, mem2 (ownF m l m' l') x y → keepN l m' l' (ownF m l m' l') x y = true := fun x y h => by
  have hx : x < m := by
    rcases Nat.lt_or_ge x m with h1 | h1
    · exact h1
    · unfold mem2 at h; rw [ownF_out S S' h0 h1] at h; simp at h
  have hy : y < 6 := mem_lt6 (fun i => lt2 S'.le (subF_lt (own_in S S' h0)) i) h
  exact own_pf S S' h0 x hx y (mem_bl.2 ⟨hy, h⟩)
theorem ref_shw {m m' : Nat} {l l' : List St3} (S : Sys m l) (S' : Sys m' l') (hv : vSys (m : Int) l = true) (hv' : vSys (m' : Int) l' = true) (h : mem2 (bestF m l m' l') 0 0) : (shw m l m' l').2 = 5 := by
  rcases shw_spec S S' hv hv' with ⟨t, _, ht⟩ | ⟨h1, _⟩
  · exact absurd ht.1.2.2 (refines_traces S S' h t ht.1.2.1)
  · rw [h1]
theorem R9L0_eq (n n' n2 : Int) (l l' l2 : List St3) (hl : l.length < Lg) (hl' : l'.length < Lg) (hl2 : l2.length < Lg) :
    iter (R9L0 Ar.std n (eSt l) n' (eSt l') n2 (eSt l2)) 0 = some (bif okSy (n, l) && (okSy (n', l') && okSy (n2, l2)) then .inl () else .inr true) := by
  have ask : ∀ (a : Int) (k : List St3), k.length < Lg → ((R16 Ar.std a (eSt k)).bind fun r39 => bif r39 then some true else (R34 Ar.std a (eSt k)).bind fun r42 => some (!r42)) = some (!okSy (a, k)) := fun a k hk => by
    rw [R16_eq, bsome, R34_eq a k hk]
    unfold okSy
    cases decide ((100 : Int) < k.length) <;> cases vSys a k <;> rfl
  have w0 : Ar.std.wrp .i64 (Ar.std.zadd 0 1) = 1 := by decide
  have w1 : Ar.std.wrp .i64 (Ar.std.zadd 1 1) = 2 := by decide
  have w2 : Ar.std.wrp .i64 (Ar.std.zadd 2 1) = 3 := by decide
  have step : ∀ (i : Int) (a : Int) (k : List St3), k.length < Lg → (0 ≤ i ∧ i < 3) → Ar.std.sub [.int .i64 n, .list 3 (eSt l), .int .i64 n', .list 3 (eSt l'), .int .i64 n2, .list 3 (eSt l2)] (Ar.std.zmul i (Int.ofNat 2)) (Ar.std.zadd (Ar.std.zmul i (Int.ofNat 2)) (Int.ofNat 2)) = [.int .i64 a, .list 3 (eSt k)] →
      R9L0 Ar.std n (eSt l) n' (eSt l') n2 (eSt l2) i = some (bif okSy (a, k) then .inl (Ar.std.wrp .i64 (Ar.std.zadd i 1)) else .inr (.inr true)) := fun i a k hk hi hs => by
    have c1 : Ar.std.zlt i 3 = true := by rw [std_zlt]; exact decide_eq_true hi.2
    have c2 : ck (Ar.std.zle 0 i) = some () := by rw [std_zle, decide_eq_true hi.1]; rfl
    have c3 : ck (Ar.std.zlt i (Int.ofNat 3)) = some () := by rw [std_zlt, decide_eq_true (by exact hi.2)]; rfl
    have hun : ((lc (cI .i64) (l1 (cL 3))).un [.int .i64 a, .list 3 (eSt k)]) = some (a, eSt k) := by simp
    unfold R9L0
    try dsimp only
    rw [c1, cond_true, c2, bsome, c3, bsome, hs, hun, bsome]
    try dsimp only
    rw [ask a k hk, bsome]
    cases okSy (a, k) with
    | true => rfl
    | false => rw [Bool.not_false, cond_true, R17_eq]; rfl
  have s0 := step 0 n l hl (by decide) rfl
  have s1 := step 1 n' l' hl' (by decide) rfl
  have s2 := step 2 n2 l2 hl2 (by decide) rfl
  have s3 : R9L0 Ar.std n (eSt l) n' (eSt l') n2 (eSt l2) 3 = some (.inr (.inl ())) := rfl
  rw [w0] at s0
  rw [w1] at s1
  rw [w2] at s2
  cases h0 : okSy (n, l) with
  | false => rw [h0] at s0; rw [iter_inr s0]; rfl
  | true =>
    rw [h0] at s0
    rw [iter_inl s0]
    cases h1 : okSy (n', l') with
    | false => rw [h1] at s1; rw [iter_inr s1]; rfl
    | true =>
      rw [h1] at s1
      rw [iter_inl s1]
      cases h2 : okSy (n2, l2) with
      | false => rw [h2] at s2; rw [iter_inr s2]; rfl
      | true =>
        rw [h2] at s2
        rw [iter_inl s2, iter_inr s3]; rfl
end Go.Am

set_option maxRecDepth 100000
set_option linter.unusedVariables false
set_option linter.unusedSimpArgs false
set_option linter.unusedSectionVars false
namespace Go.Am
open Go
theorem jn_at {α ρ : Type} {K : α → Option ρ} {F : (α → Option ρ) → Option ρ} {r : Option ρ} (a : α) (hK : K a = r) (hF : ∀ K' : α → Option ρ, K' a = r → F K' = r) : jn K F = r := hF K hK
theorem R9_ok (n n' n2 : Int) (l l' l2 : List St3) (hl : l.length < Lg) (hl' : l'.length < Lg) (hl2 : l2.length < Lg) (x y : Int) (hx : 0 ≤ x ∧ x < 256) (hy : 0 ≤ y ∧ y < 256) :
    R9 Ar.std n (eSt l) n' (eSt l') n2 (eSt l2) x y = some true := by
  have e0 := R9L0_eq n n' n2 l l' l2 hl hl' hl2
  unfold R9
  rw [e0, bsome]
  cases hv0 : (okSy (n, l) && (okSy (n', l') && okSy (n2, l2))) with
  | false => rfl
  | true =>
    obtain ⟨hv, hv1⟩ := and2 hv0
    obtain ⟨hv', hv2⟩ := and2 hv1
    have hv : vSys n l = true := okSy_v hv
    have hv' : vSys n' l' = true := okSy_v hv'
    have hv2 : vSys n2 l2 = true := okSy_v hv2
    obtain ⟨m, rfl, S⟩ := Sys.of hv
    obtain ⟨m', rfl, S'⟩ := Sys.of hv'
    obtain ⟨m2, rfl, S2⟩ := Sys.of hv2
    have z0 : Ar.std.zeq 0 0 = true := rfl
    have a1 := R44_eq m m' l l' hl hl'
    rw [rfn_of rfl rfl hv hv'] at a1
    have a2 := R44_eq m' m2 l' l2 hl' hl2
    rw [rfn_of rfl rfl hv' hv2] at a2
    have a3 := R44_eq m m2 l l2 hl hl2
    rw [rfn_of rfl rfl hv hv2] at a3
    have a4 := R23_eq m m' l l' hl hl'
    have a5 := R23_eq m m2 l l2 hl hl2
    have f1 : (bestF m l m' l' 0).testBit 0 = true → (shw m l m' l').2 = 5 := ref_shw S S' hv hv'
    have f3 : (bestF m l m2 l2 0).testBit 0 = true → (shw m l m2 l2).2 = 5 := ref_shw S S2 hv hv2
    have f2 : (bestF m l m' l' 0).testBit 0 = true → (bestF m' l' m2 l2 0).testBit 0 = true → (bestF m l m2 l2 0).testBit 0 = true := ref_trans S S' S2
    rw [cond_true, Sum.elim_inl, a1, bsome]
    try dsimp only
    rw [a2, bsome]
    try dsimp only
    rw [a3, bsome]
    try dsimp only
    rw [a4, bsome]
    try dsimp only
    rw [a5, bsome]
    try dsimp only
    rw [z0, cond_true, cond_true, cond_true]
    have hsel : (bif (bestF m l m' l' 0).testBit 0 then
          bif Ar.std.zeq (shw m l m' l').2 5 then
            bif (bestF m l m2 l2 0).testBit 0 then
              bif Ar.std.zeq (shw m l m2 l2).2 5 then
                bif (bestF m' l' m2 l2 0).testBit 0 then some (true, true, false) else some (true, false, false)
              else some (true, (bestF m' l' m2 l2 0).testBit 0, true)
            else bif (bestF m' l' m2 l2 0).testBit 0 then some (true, true, true) else some (true, false, false)
          else some (true, (bestF m' l' m2 l2 0).testBit 0, true)
        else
          bif (bestF m l m2 l2 0).testBit 0 then
            bif Ar.std.zeq (shw m l m2 l2).2 5 then some (false, (bestF m' l' m2 l2 0).testBit 0, false) else some (false, (bestF m' l' m2 l2 0).testBit 0, true)
          else some (false, (bestF m' l' m2 l2 0).testBit 0, false) : Option (Bool × Bool × Bool)) = some ((bestF m l m' l' 0).testBit 0, (bestF m' l' m2 l2 0).testBit 0, false) := by
      cases h1 : (bestF m l m' l' 0).testBit 0 <;> cases h2 : (bestF m' l' m2 l2 0).testBit 0 <;> cases h3 : (bestF m l m2 l2 0).testBit 0 <;> simp_all
    rw [hsel, bsome]
    try dsimp only
    have hsel2 : (bif (bestF m l m' l' 0).testBit 0 then some (true, (bestF m' l' m2 l2 0).testBit 0) else some (false, false) : Option (Bool × Bool)) = some ((bestF m l m' l' 0).testBit 0, (bestF m l m' l' 0).testBit 0 && (bestF m' l' m2 l2 0).testBit 0) := by
      cases (bestF m l m' l' 0).testBit 0 <;> rfl
    rw [cond_false, hsel2, bsome]
    try dsimp only
    have hfin : ∀ o : Option Bool, o = some true → (o.bind fun v48 => some v48) = some true := fun o h => by rw [h]; rfl
    refine jn_at () ?_ (fun K hK => ?_)
    · have n3 : nk (Ar.std.zeq 3 0) = some () := rfl
      obtain ⟨lab, hlab⟩ : ∃ lab, Ar.std.wrp .i64 (Ar.std.zadd 1 (Ar.std.rem (Ar.std.wrp .i64 x) 3)) = lab := ⟨_, rfl⟩
      have hlb : 1 ≤ lab ∧ lab ≤ 3 := by
        rw [← hlab]
        simp only [std_wrp, std_zadd, std_rem]
        rw [i64w x (by omega) (by omega)]
        have h1 := Int.tmod_nonneg 3 hx.1
        have h2 := Int.tmod_lt_of_pos x (by decide : (0 : Int) < 3)
        rw [i64w _ (by omega) (by omega)]; omega
      have h0 : lab ≠ 0 := by omega
      have hbt : btw 1 lab 3 = true := by rw [btw_true]; exact hlb
      have hh := hid_valid hv lab
      have hh' := hid_valid hv' lab
      have hlen : (hidL l lab).length < Lg := Nat.lt_of_le_of_lt (hidL_len l lab) hl
      have hlen' : (hidL l' lab).length < Lg := Nat.lt_of_le_of_lt (hidL_len l' lab) hl'
      have e1 : R43 Ar.std m (eSt l) lab = some ((m : Int), eSt (hidL l lab), 0) := by rw [R43_eq m l hl]; unfold hidR; rw [hv, hbt]; rfl
      have e2 : R43 Ar.std m' (eSt l') lab = some ((m' : Int), eSt (hidL l' lab), 0) := by rw [R43_eq m' l' hl']; unfold hidR; rw [hv', hbt]; rfl
      have e5 := R44_eq m m' (hidL l lab) (hidL l' lab) hlen hlen'
      rw [rfn_of rfl rfl hh hh'] at e5
      have hkeep : (bestF m l m' l' 0).testBit 0 = true → (bestF m (hidL l lab) m' (hidL l' lab) 0).testBit 0 = true := ref_hid h0 S S' (Sys.same rfl hh) (Sys.same rfl hh')
      rw [n3, bsome, hlab, e1, bsome]
      try dsimp only
      rw [e2, bsome]
      try dsimp only
      rw [e5, bsome]
      try dsimp only
      rw [z0, cond_true, cond_true, cond_true]
      have hsel3 : (bif (bestF m l m' l' 0).testBit 0 then some (true, (!(bestF m (hidL l lab) m' (hidL l' lab) 0).testBit 0)) else some (false, false) : Option (Bool × Bool)) = some ((bestF m l m' l' 0).testBit 0, false) := by
        cases hb : (bestF m l m' l' 0).testBit 0 with
        | false => rfl
        | true => rw [hkeep hb]; rfl
      rw [hsel3, bsome]
      try dsimp only
      rw [cond_false, R28_eq m' l' hl', bsome]
      try dsimp only
      refine jn_at ((bestF m l m' l' 0).testBit 0) ?_ (fun K hK => ?_)
      · rw [len_enc, std_zeq]
        by_cases hz : (l.length : Int) = 0
        · rw [decide_eq_true hz, cond_true, R17_eq]; rfl
        · rw [decide_eq_false hz, cond_false]
          have hix : Ar.std.rem (Ar.std.wrp .i64 y) (l.length : Int) = ((y % (l.length : Int)).toNat : Int) := by
            rw [std_wrp, i64w y (by omega) (by omega), std_rem, Int.tmod_eq_emod_of_nonneg hy.1]
            have := Int.emod_nonneg y hz
            omega
          have hilt : (y % (l.length : Int)).toNat < l.length := by
            have h1 := Int.emod_nonneg y hz
            have h2 := Int.emod_lt_of_pos y (by omega : (0 : Int) < (l.length : Int))
            omega
          generalize (y % (l.length : Int)).toNat = i at hix hilt
          have hve := sub_valid hv (List.eraseIdx_sublist l i)
          have hel : (l.eraseIdx i).length < Lg := by rw [len_erase hilt]; exact Nat.lt_of_le_of_lt (Nat.sub_le _ _) hl
          have e7 := R44_eq m m' (l.eraseIdx i) l' hel hl'
          rw [rfn_of rfl rfl hve hv'] at e7
          have Se := Sys.same rfl hve
          have hr : mem2 (bestF m (l.eraseIdx i) m l) 0 0 := ref_sub S Se (fun z hz => (List.eraseIdx_sublist l i).subset hz)
          have hr2 : (bestF m l m' l' 0).testBit 0 = true → (bestF m (l.eraseIdx i) m' l' 0).testBit 0 = true := fun h => ref_trans Se S S' hr h
          have nk0 : nk false = some () := rfl
          rw [nk0, bsome, hix, R45_eq m l hl hv i hilt, bsome]
          try dsimp only
          rw [e7, bsome]
          try dsimp only
          rw [z0, cond_true, cond_true, R17_eq]
          cases hb : (bestF m l m' l' 0).testBit 0 with
          | false => rfl
          | true => rw [hr2 hb]; rfl
      · by_cases hk : (sRun m' l').1.length ≤ 6
        · have hF := run_fin S'
          have hs : seenS m' l' = ((((sRun m' l').1.length : Nat) : Int), (sRun m' l').2, 0) := by
            unfold seenS
            rw [hv', cond_true, decide_eq_false (by omega)]; rfl
          have hvk := fin_valid hF hk
          have hpk := fin_plain hF
          have Sk := fin_sys hF hk
          have hlk : (sRun m' l').2.length < Lg := Nat.lt_of_le_of_lt (vSys_st hvk).2.1 (by decide)
          have e8 := R44_eq m ((sRun m' l').1.length : Nat) l (sRun m' l').2 hl hlk
          rw [rfn_of rfl rfl hv hvk] at e8
          have hsame : ∀ {w : List Int}, Lab w → (behindN m' l' w = 0 ↔ behindN (sRun m' l').1.length (sRun m' l').2 w = 0) := fun {w} hw => fin_same hF hk hw
          generalize (sRun m' l').1.length = k at *
          generalize (sRun m' l').2 = st at *
          have hto : (bestF m l k st 0).testBit 0 = true → (shw m l m' l').2 = 5 := fun h => by
            rcases shw_spec S S' hv hv' with ⟨t, _, ht⟩ | ⟨h1, _⟩
            · exact absurd ((hsame ht.1.1).1 ht.1.2.2) (refines_traces S Sk h t ht.1.2.1)
            · rw [h1]
          have hfro : (shw m l m' l').2 = 5 → (bestF m l k st 0).testBit 0 = true := fun h => by
            rcases shw_spec S S' hv hv' with ⟨t, h1, _⟩ | ⟨_, h1⟩
            · rw [h1] at h; exact absurd h (show ¬ (0 : Int) = 5 by decide)
            · exact plain_refines S Sk hpk fun w hw => h1 w ⟨hw.1, hw.2.1, (hsame hw.1).2 hw.2.2⟩
          have hbe : Ar.std.beq ((bestF m l k st 0).testBit 0) (Ar.std.zeq (shw m l m' l').2 5) = true := by
            show ((bestF m l k st 0).testBit 0 == decide ((shw m l m' l').2 = 5)) = true
            by_cases h : (shw m l m' l').2 = 5
            · rw [hfro h, decide_eq_true h]; rfl
            · rw [decide_eq_false h]
              cases hb : (bestF m l k st 0).testBit 0 with
              | false => rfl
              | true => exact absurd (hto hb) h
          have hsel4 : (bif (bestF m l m' l' 0).testBit 0 then some (true, !(bestF m l k st 0).testBit 0) else some (false, false) : Option (Bool × Bool)) = some ((bestF m l m' l' 0).testBit 0, false) := by
            cases hb : (bestF m l m' l' 0).testBit 0 with
            | false => rfl
            | true => rw [hfro (f1 hb)]; rfl
          rw [hs]
          try dsimp only
          rw [z0, cond_true, e8, bsome, bsome]
          try dsimp only
          rw [z0, cond_true, hbe, cond_true, hsel4, bsome]
          try dsimp only
          rw [cond_false]
          exact hK
        · have hs : (seenS m' l').2.2 = 4 := by
            unfold seenS
            rw [hv', cond_true, decide_eq_true (by omega)]; rfl
          rw [hs]
          exact hK
    · cases hB : ((bestF m l m' l' 0).testBit 0 && (bestF m' l' m2 l2 0).testBit 0) with
      | false => exact hK
      | true =>
        obtain ⟨h1, h2⟩ := and2 hB
        have hprf : ∀ {k k' : Nat} {p q : List St3}, vSys (k : Int) p = true → vSys (k' : Int) q = true → (bestF k p k' q 0).testBit 0 = true → prf k p k' q = (prs k (ownF k p k' q), 0) := fun {k k'} {p q} hp hq hb => by
          unfold prf
          rw [hp, hq, Bool.and_self, cond_true, Int.toNat_natCast, Int.toNat_natCast, hb, cond_true]
        have c1 := R46_eq m m' l l' hl hl'
        rw [hprf hv hv' h1] at c1
        have c2 := R46_eq m' m2 l' l2 hl' hl2
        rw [hprf hv' hv2 h2] at c2
        have c3 := R47_eq m' m2 l' l2 hl' hl2
        rw [bst_of rfl rfl hv' hv2] at c3
        have o1 := subF_lt (own_in S S' h1)
        have o2 : ∀ i, m ≤ i → ownF m l m' l' i = 0 := fun i hi => ownF_out S S' h1 hi
        have hcm : cmpd (prs m (ownF m l m' l')) (prs m' (bestF m' l' m2 l2)) = (prs m (compF (ownF m l m' l') (bestF m' l' m2 l2)), 0) := by
          have hm := S.le
          have r1 := prs_rel6 S.le (lt2 S'.le o1)
          have r2 := prs_rel6 S'.le (lt2 S2.le (bestF_inB (m := m') (l := l') (m' := m2) (l' := l2)))
          unfold cmpd
          rw [r1, r2, Bool.and_self, cond_true, relF_prs (lt2 S'.le o1) o2, relF_prs (lt2 S2.le bestF_inB) (fun i hi => bestF_out S'.le hi)]
          have hp := prs_zero (n := m) (f := compF (ownF m l m' l') (bestF m' l' m2 l2)) (comp_out o2) (6 - m)
          rw [show m + (6 - m) = 6 from by omega] at hp
          rw [hp]
        have c4 := R39_eq (prs m (ownF m l m' l')) (prs m' (bestF m' l' m2 l2)) (prs_Lg S.le _) (prs_Lg S'.le _)
        rw [hcm] at c4
        have hpf := comp_pf (m := m) S' S2 (lt2 S'.le o1) (bestF_inB (m := m') (l := l') (m' := m2) (l' := l2)) (own_all S S' h1) (best_all S' S2)
        have hBd := comp_ltB (f := ownF m l m' l') (bestF_inB (m := m') (l := l') (m' := m2) (l' := l2))
        have c5 := R48_eq m m2 l l2 hl hl2 _ (prs_Lg S.le (compF (ownF m l m' l') (bestF m' l' m2 l2)))
        rw [isPr_ok S S2 rfl rfl hv hv2 hBd (comp_out o2) (fun x hx y hy => hpf x y (mem_bl.1 hy).2)] at c5
        have hlen : (prs m' (ownF m' l' m2 l2)).length ≤ (prs m' (bestF m' l' m2 l2)).length := prs_mono (own_in S' S2 h2) m'
        have hpos : 0 < (prs m' (ownF m' l' m2 l2)).length := by
          have h00 : mem2 (ownF m' l' m2 l2) 0 0 := (own_least S' S2 h2).fst
          exact List.length_pos_of_mem (mem_prs.2 ⟨0, 0, S'.pos, mem_bl.2 ⟨by decide, h00⟩, rfl⟩)
        have d1 : Ar.std.zeq (Ar.std.len (ePr (prs m' (ownF m' l' m2 l2)))) 0 = false := by rw [std_zeq, len_enc]; exact decide_eq_false (by omega)
        have d2 : Ar.std.zlt (Ar.std.len (ePr (prs m' (bestF m' l' m2 l2)))) (Ar.std.len (ePr (prs m' (ownF m' l' m2 l2)))) = false := by rw [std_zlt, len_enc, len_enc]; exact decide_eq_false (by omega)
        rw [cond_true, c1, bsome]
        try dsimp only
        rw [c2, bsome]
        try dsimp only
        rw [c3, bsome]
        try dsimp only
        rw [c4, bsome]
        try dsimp only
        rw [c5, bsome]
        try dsimp only
        rw [z0, cond_true, cond_true, cond_true, cond_true, cond_true, cond_true, d1, cond_false, d2, bsome, cond_false]
        exact hK
end Go.Am
