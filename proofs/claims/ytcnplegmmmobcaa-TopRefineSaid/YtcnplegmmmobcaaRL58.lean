/- Own text: RL58. -/
import Derived.Test.YtcnplegmmmobcaaRL56
set_option maxRecDepth 100000
set_option linter.unusedVariables false
set_option linter.unusedSimpArgs false
set_option linter.unusedSectionVars false
namespace Go.Am
open Go
theorem R89_eq (out : List St3) (ho : out.length < Lg) (z : St3) : R89 Ar.std (eSt out) z.1 z.2.1 z.2.2 = some (out.contains z) := by
  have key := iter_find (step := R109L0 Ar.std (eSt out) z.1 z.2.1 z.2.2) out (fun y => decide (z = y)) (fun i => .inr (i : Int)) (.inl ()) (fun i y hy hi => by
      unfold R109L0
      try dsimp only
      rw [ltS hi, cond_true, gt_enc hy, bsome]
      try dsimp only
      rw [deq_st z y, inc hi ho]
      cases decide (z = y) <;> rfl) (by
      unfold R109L0
      try dsimp only
      rw [geS, cond_false])
  have hany : out.any (fun y => decide (z = y)) = out.contains z := by
    rw [Bool.eq_iff_iff, List.any_eq_true, List.contains_iff_mem]
    exact ⟨fun ⟨y, hy, e⟩ => by rw [of_decide_eq_true e]; exact hy, fun h => ⟨z, h, decide_eq_true rfl⟩⟩
  unfold R89 R109
  rw [key, bsome]
  have h := find_le out (fun y => decide (z = y))
  rw [hany] at h
  rw [← h]
  cases out.findIdx? (fun y => decide (z = y)) <;> rfl
def hidR (n : Int) (l : List St3) (lab : Int) : Int × List St3 × Int := bif vSys n l then (bif btw 1 lab 3 then (n, hidL l lab, 0) else (0, [], 2)) else (0, [], 50)
theorem R43L0_eq (l : List St3) (hl : l.length < 4294967295) (lab : Int) : iter (R43L0 Ar.std (eSt l) lab) ([], 0) = some (eSt (hidL l lab)) := by
  have hlg : l.length < Lg := Nat.lt_trans hl (by decide)
  have key := iter_pre (step := R43L0 Ar.std (eSt l) lab) l (fun pre => hidL pre lab) (fun s k => (eSt s, (k : Int))) (fun s => eSt s)
    (fun i z hz hi => by
      have hle : (hidL (l.take i) lab).length < 4294967295 := Nat.lt_of_le_of_lt (hidL_len _ _) (by simp; omega)
      have hsn : hidL (l.take i ++ [z]) lab = hidStep lab (hidL (l.take i) lab) z := by unfold hidL; rw [List.foldl_append]; rfl
      have hap : ap Ar.std (eSt (hidL (l.take i) lab)) [.agg [.int .i64 (hidOne lab z).1, .int .i64 (hidOne lab z).2.1, .int .i64 (hidOne lab z).2.2]] = some (eSt (hidL (l.take i) lab ++ [hidOne lab z])) := ap_enc1 rfl hle
      have hc := R89_eq (hidL (l.take i) lab) (Nat.lt_trans hle (by decide)) (hidOne lab z)
      have hsel : (bif Ar.std.zeq z.2.1 lab then some 0 else some z.2.1 : Option Int) = some (hidOne lab z).2.1 := by
        unfold hidOne
        rw [std_zeq]
        cases decide (z.2.1 = lab) <;> rfl
      unfold R43L0
      try dsimp only
      rw [ltS hi, cond_true, gt_enc hz, bsome]
      try dsimp only
      rw [hsel, bsome]
      have hc' : R89 Ar.std (eSt (hidL (l.take i) lab)) z.1 (hidOne lab z).2.1 z.2.2 = some ((hidL (l.take i) lab).contains (hidOne lab z)) := hc
      have hap' : ap Ar.std (eSt (hidL (l.take i) lab)) [.agg [.int .i64 z.1, .int .i64 (hidOne lab z).2.1, .int .i64 z.2.2]] = some (eSt (hidL (l.take i) lab ++ [hidOne lab z])) := hap
      rw [hc', bsome, hap', inc hi hlg, hsn]
      unfold hidStep
      cases (hidL (l.take i) lab).contains (hidOne lab z) <;> rfl)
    (by
      unfold R43L0
      try dsimp only
      rw [geS, cond_false])
  exact key
theorem R43_eq (n : Int) (l : List St3) (hl : l.length < Lg) (lab : Int) : R43 Ar.std n (eSt l) lab = some ((hidR n l lab).1, eSt (hidR n l lab).2.1, (hidR n l lab).2.2) := by
  unfold R43 hidR
  rw [R33_eq n l hl, bsome]
  cases hv : vSys n l with
  | false => rfl
  | true =>
    have hle := (vSys_st hv).2.1
    have h61 : R61 Ar.std lab = some (btw 1 lab 3) := by unfold R61; rw [R65_eq]; rfl
    rw [cond_true, cond_true, h61, bsome]
    cases btw 1 lab 3 with
    | false => rfl
    | true => rw [cond_true, cond_true, R43L0_eq l (by omega), bsome]
theorem R93_eq (l : List St3) (hl : l.length < 4294967295) : R93 Ar.std (eSt l) = some (eSt l) := by
  unfold R93
  rw [ap_enc0 (by omega), bsome]
  cases h0 : Ar.std.zlt 0 (Ar.std.len (eSt l)) with
  | true => rfl
  | false =>
    have : l = [] := by simp at h0; exact h0
    subst this
    simp [both]
theorem scalSt (l : List St3) : scalars (eSt l) = true := by
  simp only [scalars, eSt, enc, List.all_map, List.all_eq_true]
  intro c _
  rfl
theorem R92_eq (l : List St3) (i : Nat) (hi : i < l.length) : ∃ L : List D, R92 Ar.std 0 (l.length : Int) (i : Int) ((i + 1 : Nat) : Int) (eSt l) = some (0, ((l.length - 1 : Nat) : Int), L) ∧ fz Ar.std L 0 ((l.length - 1 : Nat) : Int) = some (eSt (l.eraseIdx i)) := by
  have hlen : (eSt l).length = l.length := by simp
  have hsub : Ar.std.sub (eSt l) (Ar.std.zadd 0 ((i + 1 : Nat) : Int)) (Ar.std.zadd (Ar.std.zadd 0 ((i + 1 : Nat) : Int)) (Ar.std.zsub (l.length : Int) ((i + 1 : Nat) : Int))) = (eSt l).drop (i + 1) := by
    have e1 : ((0 : Int) + ((i + 1 : Nat) : Int)).toNat = i + 1 := by omega
    have e2 : ((0 : Int) + ((i + 1 : Nat) : Int) + ((l.length : Int) - ((i + 1 : Nat) : Int))).toNat = l.length := by omega
    rw [std_sub, std_zadd, std_zadd, std_zsub, e1, e2, List.take_of_length_le (by simp)]
  have hspl : Ar.std.spl (eSt l) (Ar.std.zadd 0 (i : Int)) ((eSt l).drop (i + 1)) = (eSt l).take i ++ (eSt l).drop (i + 1) ++ (eSt l).drop (l.length - 1) := by
    have e1 : ((0 : Int) + (i : Int)).toNat = i := by omega
    have e2 : i + ((eSt l).drop (i + 1)).length = l.length - 1 := by simp; omega
    rw [std_spl, std_zadd, e1, e2]
  have hx : Ar.std.zadd (i : Int) (Ar.std.zsub (l.length : Int) ((i + 1 : Nat) : Int)) = ((l.length - 1 : Nat) : Int) := by rw [std_zadd, std_zsub]; omega
  generalize hM : (eSt l).take i ++ (eSt l).drop (i + 1) ++ (eSt l).drop (l.length - 1) = M at hspl
  have hMl : M.length = l.length := by rw [← hM]; simp; omega
  refine ⟨Ar.std.fill M (Ar.std.zadd 0 ((l.length - 1 : Nat) : Int)) (Ar.std.zsub (l.length : Int) ((l.length - 1 : Nat) : Int)) (.agg [(.int .i64 0), (.int .i64 0), (.int .i64 0)]), ?_, ?_⟩
  · unfold R92
    rw [hsub, hspl, hx]
    have c1 : Ar.std.zle 0 (i : Int) = true := by rw [std_zle]; exact decide_eq_true (by omega)
    have c2 : Ar.std.zle (i : Int) ((i + 1 : Nat) : Int) = true := by rw [std_zle]; exact decide_eq_true (by omega)
    have c3 : Ar.std.zle ((i + 1 : Nat) : Int) (l.length : Int) = true := by rw [std_zle]; exact decide_eq_true (by omega)
    have c4 : Ar.std.zle (l.length : Int) (l.length : Int) = true := by rw [std_zle]; exact decide_eq_true (by omega)
    have c5 : Ar.std.zeq (i : Int) ((i + 1 : Nat) : Int) = false := by rw [std_zeq]; exact decide_eq_false (by omega)
    have c6 : Ar.std.zle (i : Int) (l.length : Int) = true := by rw [std_zle]; exact decide_eq_true (by omega)
    have c7 : Ar.std.zlt 0 (l.length : Int) = true := by rw [std_zlt]; exact decide_eq_true (by omega)
    have c8 : Ar.std.zle 0 ((i + 1 : Nat) : Int) = true := by rw [std_zle]; exact decide_eq_true (by omega)
    have c9 : Ar.std.zle ((l.length - 1 : Nat) : Int) (l.length : Int) = true := by rw [std_zle]; exact decide_eq_true (by omega)
    have d1 : Ar.std.zle (Ar.std.zadd (Ar.std.zadd 0 ((i + 1 : Nat) : Int)) (Ar.std.zsub (l.length : Int) ((i + 1 : Nat) : Int))) (Ar.std.len (eSt l)) = true := by
      rw [std_zle, std_zadd, std_zadd, std_zsub, len_enc]; exact decide_eq_true (by omega)
    have d2 : Ar.std.zle (Ar.std.zadd 0 ((l.length - 1 : Nat) : Int)) (Ar.std.len (eSt l)) = true := by
      rw [std_zle, std_zadd, len_enc]; exact decide_eq_true (by omega)
    have d3 : Ar.std.zle 0 ((l.length - 1 : Nat) : Int) = true := by rw [std_zle]; exact decide_eq_true (by omega)
    have d4 : Ar.std.zle (Ar.std.zadd (Ar.std.zadd 0 ((l.length - 1 : Nat) : Int)) (Ar.std.zsub (l.length : Int) ((l.length - 1 : Nat) : Int))) (Ar.std.len M) = true := by
      rw [std_zle, std_zadd, std_zadd, std_zsub, std_len, hMl]; exact decide_eq_true (by omega)
    simp only [c1, c2, c3, c4, c5, c6, c7, c8, c9, d1, d2, d3, d4, ck_true, bsome, cond_false]
  · have hfill : Ar.std.fill M (Ar.std.zadd 0 ((l.length - 1 : Nat) : Int)) (Ar.std.zsub (l.length : Int) ((l.length - 1 : Nat) : Int)) (.agg [(.int .i64 0), (.int .i64 0), (.int .i64 0)]) = M.take (l.length - 1) ++ [.agg [(.int .i64 0), (.int .i64 0), (.int .i64 0)]] := by
      have e1 : ((0 : Int) + ((l.length - 1 : Nat) : Int)).toNat = l.length - 1 := by omega
      have e2 : ((l.length : Int) - ((l.length - 1 : Nat) : Int)).toNat = 1 := by omega
      rw [std_fill, std_zadd, std_zsub]
      unfold fillStd
      rw [e1, e2, List.drop_of_length_le (by omega), List.append_nil]; rfl
    have her : eSt (l.eraseIdx i) = M.take (l.length - 1) := by
      rw [← hM, List.take_append_of_le_length (by simp; omega), List.take_of_length_le (by simp; omega)]
      unfold eSt enc
      rw [List.eraseIdx_eq_take_drop_succ, List.map_append, List.map_take, List.map_drop]
    rw [hfill, her]
    have hz : Ar.std.zle (Ar.std.zadd 0 ((l.length - 1 : Nat) : Int)) (Ar.std.len (M.take (l.length - 1) ++ [.agg [(.int .i64 0), (.int .i64 0), (.int .i64 0)]])) = true := by
      rw [std_zle, std_zadd, std_len]; simp; omega
    unfold fz
    rw [hz, cond_true, std_sub, std_zadd]
    have e1 : ((0 : Int) + ((l.length - 1 : Nat) : Int)).toNat - (0 : Int).toNat = l.length - 1 := by omega
    rw [e1]
    show some (List.take (l.length - 1) (M.take (l.length - 1) ++ _)) = _
    rw [List.take_append_of_le_length (by simp; omega), List.take_take, Nat.min_self]
end Go.Am

set_option maxRecDepth 100000
set_option linter.unusedVariables false
set_option linter.unusedSimpArgs false
set_option linter.unusedSectionVars false
namespace Go.Am
open Go
theorem R45_eq (n : Int) (l : List St3) (hl : l.length < Lg) (hv : vSys n l = true) (i : Nat) (hi : i < l.length) : R45 Ar.std n (eSt l) (i : Int) = some (n, eSt (l.eraseIdx i), 0) := by
  have hle := (vSys_st hv).2.1
  have h1 : Ar.std.zlt (i : Int) 0 = false := by rw [std_zlt]; exact decide_eq_false (by omega)
  have h2 : Ar.std.zle (Ar.std.len (eSt l)) (i : Int) = false := by rw [std_zle, len_enc]; exact decide_eq_false (by omega)
  have h3 : Ar.std.zlt 0 (Ar.std.len (eSt l)) = true := by rw [std_zlt, len_enc]; exact decide_eq_true (by omega)
  obtain ⟨L, e1, e2⟩ := R92_eq l i hi
  have hw : Ar.std.wrp .i64 (Ar.std.zadd (i : Int) 1) = ((i + 1 : Nat) : Int) := inc hi hl
  unfold R45
  rw [R33_eq n l hl, hv, bsome, cond_true, h1, cond_false, h2, bsome, cond_false, R93_eq l (by omega), bsome, h3, cond_true, scalSt, ck_true, bsome, len_enc, hw, e1, bsome]
  try dsimp only
  rw [e2, bsome, bsome]
theorem len_erase {l : List St3} {i : Nat} (hi : i < l.length) : (l.eraseIdx i).length = l.length - 1 := List.length_eraseIdx_of_lt hi
theorem R7_ok (n n' : Int) (l l' : List St3) (hl : l.length < Lg) (hl' : l'.length < Lg) (x y : Int) (hx : 0 ≤ x ∧ x < 256) (hy : 0 ≤ y ∧ y < 256) : R7 Ar.std n (eSt l) n' (eSt l') x y = some true := by
  have h42 := R42_eq [(n, l), (n', l')] (by show 2 < 9223372036854775808; decide) (fun s hs => by
    rcases List.mem_cons.1 hs with rfl | hs
    · exact hl
    · rw [List.mem_singleton] at hs; subst hs; exact hl')
  have h42' : R42 Ar.std [.agg [.int .i64 n, .list 3 (eSt l)], .agg [.int .i64 n', .list 3 (eSt l')]] = some (okSy (n, l) && okSy (n', l')) := by
    have e : [(n, l), (n', l')].all okSy = (okSy (n, l) && okSy (n', l')) := by simp
    rw [e] at h42; exact h42
  unfold R7
  rw [h42', bsome]
  cases hv0 : (okSy (n, l) && okSy (n', l')) with
  | false => rw [cond_false, R17_eq]; rfl
  | true =>
    obtain ⟨hv, hv'⟩ := and2 hv0
    have hv : vSys n l = true := okSy_v hv
    have hv' : vSys n' l' = true := okSy_v hv'
    obtain ⟨m, hnm, S⟩ := Sys.of hv
    obtain ⟨m', hnm', S'⟩ := Sys.of hv'
    have n3 : nk (Ar.std.zeq 3 0) = some () := rfl
    obtain ⟨lab, hlab⟩ : ∃ lab, Ar.std.wrp .i64 (Ar.std.zadd 1 (Ar.std.rem (Ar.std.wrp .i64 x) 3)) = lab := ⟨_, rfl⟩
    have hlb : 1 ≤ lab ∧ lab ≤ 3 := by
      rw [← hlab]
      simp only [std_wrp, std_zadd, std_rem]
      rw [i64w x (by omega) (by omega)]
      have h1 := Int.tmod_nonneg 3 hx.1
      have h2 := Int.tmod_lt_of_pos x (by decide : (0 : Int) < 3)
      rw [i64w _ (by omega) (by omega)]; omega
    have h0 : lab ≠ 0 := by omega
    have hbt : btw 1 lab 3 = true := by rw [btw_true]; exact hlb
    have hh := hid_valid hv lab
    have hh' := hid_valid hv' lab
    have hlen : (hidL l lab).length < Lg := Nat.lt_of_le_of_lt (hidL_len l lab) hl
    have hlen' : (hidL l' lab).length < Lg := Nat.lt_of_le_of_lt (hidL_len l' lab) hl'
    have e1 : R43 Ar.std n (eSt l) lab = some (n, eSt (hidL l lab), 0) := by rw [R43_eq n l hl]; unfold hidR; rw [hv, hbt]; rfl
    have e2 : R43 Ar.std n' (eSt l') lab = some (n', eSt (hidL l' lab), 0) := by rw [R43_eq n' l' hl']; unfold hidR; rw [hv', hbt]; rfl
    have e3 : R43 Ar.std n (eSt (hidL l lab)) lab = some (n, eSt (hidL l lab), 0) := by rw [R43_eq n _ hlen]; unfold hidR; rw [hh, hbt, hidL_two h0]; rfl
    have e4 := R44_eq n n' l l' hl hl'
    have e5 := R44_eq n n' (hidL l lab) (hidL l' lab) hlen hlen'
    rw [rfn_of hnm hnm' hv hv'] at e4
    rw [rfn_of hnm hnm' hh hh'] at e5
    have e6 := R30_same n (hidL l lab) hlen
    have hkeep : (bestF m l m' l' 0).testBit 0 = true → (bestF m (hidL l lab) m' (hidL l' lab) 0).testBit 0 = true := ref_hid h0 S S' (Sys.same hnm hh) (Sys.same hnm' hh')
    have z0 : Ar.std.zeq 0 0 = true := rfl
    rw [cond_true, n3, bsome, hlab, e1, bsome]
    try dsimp only
    rw [e2, bsome]
    try dsimp only
    rw [e4, bsome]
    try dsimp only
    rw [e5, bsome]
    try dsimp only
    rw [e3, bsome]
    try dsimp only
    rw [z0, cond_true, cond_true, cond_true, cond_true, cond_true, e6, bsome]
    have hsel : (bif (bestF m l m' l' 0).testBit 0 then bif (bestF m (hidL l lab) m' (hidL l' lab) 0).testBit 0 then some (!true) else some true else some (!true) : Option Bool) = some false := by
      cases hb : (bestF m l m' l' 0).testBit 0 with
      | false => rfl
      | true => rw [hkeep hb]; rfl
    rw [hsel, bsome, cond_false, len_enc, std_zeq]
    by_cases hz : (l.length : Int) = 0
    · rw [decide_eq_true hz, cond_true, R17_eq]; rfl
    · rw [decide_eq_false hz, cond_false]
      have hix : Ar.std.rem (Ar.std.wrp .i64 y) (l.length : Int) = ((y % (l.length : Int)).toNat : Int) := by
        rw [std_wrp, i64w y (by omega) (by omega), std_rem, Int.tmod_eq_emod_of_nonneg hy.1]
        have := Int.emod_nonneg y hz
        omega
      have hilt : (y % (l.length : Int)).toNat < l.length := by
        have h1 := Int.emod_nonneg y hz
        have h2 := Int.emod_lt_of_pos y (by omega : (0 : Int) < (l.length : Int))
        omega
      generalize (y % (l.length : Int)).toNat = i at hix hilt
      have hve := sub_valid hv (List.eraseIdx_sublist l i)
      have hel : (l.eraseIdx i).length < Lg := by rw [len_erase hilt]; exact Nat.lt_of_le_of_lt (Nat.sub_le _ _) hl
      have e7 := R44_eq n n (l.eraseIdx i) l hel hl
      rw [rfn_of hnm hnm hve hv] at e7
      have hr : (bestF m (l.eraseIdx i) m l 0).testBit 0 = true := ref_sub S (Sys.same hnm hve) (fun z hz => (List.eraseIdx_sublist l i).subset hz)
      rw [hr] at e7
      have hle := (vSys_st hv).2.1
      have hlast : Ar.std.zeq (Ar.std.len (eSt (l.eraseIdx i))) (Ar.std.wrp .i64 (Ar.std.zsub (l.length : Int) 1)) = true := by
        rw [std_zeq, len_enc, len_erase hilt, std_wrp, std_zsub, i64w _ (by omega) (by omega)]
        exact decide_eq_true (by omega)
      have nk0 : nk false = some () := rfl
      rw [nk0, bsome, hix, R45_eq n l hl hv i hilt, bsome]
      try dsimp only
      rw [e7, bsome]
      try dsimp only
      rw [z0, cond_true, cond_true, cond_true, hlast, cond_true, R17_eq]
      rfl
end Go.Am
