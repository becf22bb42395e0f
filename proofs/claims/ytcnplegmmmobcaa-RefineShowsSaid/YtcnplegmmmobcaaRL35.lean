/- Own text: RL35. -/
import Derived.Test.YtcnplegmmmobcaaRL25
/- The refinement layer: what is seen, one round of the document. -/
set_option maxRecDepth 100000
set_option linter.unusedVariables false
set_option linter.unusedSimpArgs false
namespace Go.Am
open Go
theorem R29L0_eq (ln : List Nat) (hln : ln.length < Lg) (x : Nat) : iter (R29L0 Ar.std (eInt (cNs ln)) (x : Int)) 0 = some ((ln.findIdx? fun y => decide (x = y)).elim (ln.length : Int) (fun i => (i : Int))) := by
  refine iter_find (step := R29L0 Ar.std (eInt (cNs ln)) (x : Int)) ln (fun y => decide (x = y)) (fun i => (i : Int)) (ln.length : Int) (fun i y hy hi => ?_) ?_
  · have hlt : Ar.std.zlt (i : Int) (Ar.std.len (eInt (cNs ln))) = true := by rw [eIc_len]; exact ltN hi
    have hg : gt Ar.std (cI .i64) (eInt (cNs ln)) (i : Int) = some (y : Int) := gt_enc (cNs_get hy)
    have hz : Ar.std.zeq (y : Int) (x : Int) = decide (x = y) := by rw [std_zeq]; exact decide_eq_decide.2 (by omega)
    unfold R29L0
    rw [hlt, cond_true, hg, bsome, hz, bsome, inc hi hln]
    cases decide (x = y) <;> rfl
  · have hge : Ar.std.zlt (ln.length : Int) (Ar.std.len (eInt (cNs ln))) = false := by rw [eIc_len]; exact geN _
    unfold R29L0
    rw [hge, cond_false, bsome, cond_false]
theorem R29L1_eq {m : Nat} {l : List St3} (S : Sys m l) {i : Nat} {s0 : SeeS} {c : Nat} (h : SeeI m i s0 c) (hc : c ≤ 1000) (hi : i < s0.1.length) :
    iter (R29L1 Ar.std (m : Int) (eSt l) (i : Int)) (eInt (cNs s0.1), eSt s0.2, 1) = some (eInt (cNs (seeR m l i s0).1), eSt (seeR m l i s0).2) := by
  have hm6 := S.le
  have key := iter_pre (step := R29L1 Ar.std (m : Int) (eSt l) (i : Int)) [(1 : Int), 2, 3] (fun pre => pre.foldl (seeL m l i) s0) (fun s k => (eInt (cNs s.1), eSt s.2, ((k + 1 : Nat) : Int))) (fun s => (eInt (cNs s.1), eSt s.2))
    (fun k lab hlab hk => by
      have hk3 : k < 3 := hk
      have hl := lab3 hk3 hlab
      have hF := seeF_ok S ([(1 : Int), 2, 3].take k) h hi
      rw [List.foldl_append, List.foldl_cons, List.foldl_nil]
      generalize ([(1 : Int), 2, 3].take k).foldl (seeL m l i) s0 = s at hF
      obtain ⟨hI, hm⟩ := hF
      have hi' : i < s.1.length := Nat.lt_of_lt_of_le hi hm
      have hlen := hI.len
      have hst := hI.stp
      have hck : ([(1 : Int), 2, 3].take k).length ≤ 3 := by rw [List.length_take]; simp; omega
      subst hl
      have hg : gt Ar.std (cI .i64) (eInt (cNs s.1)) (i : Int) = some ((s.1.getD i 0 : Nat) : Int) := gt_enc (cNs_get (getD_of hi'))
      have hx : s.1.getD i 0 < 2 ^ m := by
        rw [List.getD_eq_getElem?_getD, List.getElem?_eq_getElem hi']; exact hI.lt _ (List.getElem_mem hi')
      have hR := R74_eq (m : Int) (by omega) (by omega) S.ok _ (lt64 hm6 hx) ((k + 1 : Nat) : Int)
      unfold R29L1 seeL
      dsimp only
      rw [le3 hk3, cond_true, hg, bsome, hR, bsome, zeqN, inc (by omega : k + 1 < 9) (by decide)]
      generalize comesN m l (s.1.getD i 0) ((k + 1 : Nat) : Int) = x
      cases decide (x = 0) with
      | true => rfl
      | false =>
        have h29 := R29L0_eq s.1 (by show s.1.length < 9223372036854775808; omega) x
        rw [cond_false, cond_false, h29, bsome, eIc_len]
        cases hf : s.1.findIdx? (fun y => decide (x = y)) with
        | some j =>
          have hj : j < s.1.length := (List.findIdx?_eq_some_iff_getElem.1 hf).1
          have hz : Ar.std.zeq (j : Int) (s.1.length : Int) = false := by rw [std_zeq]; exact decide_eq_false (by omega)
          have hap := ap_st (ls := s.2) ((i : Int), ((k + 1 : Nat) : Int), (j : Int)) (by omega)
          rw [Option.elim_some, Option.elim_some, hz, cond_false, bsome]
          dsimp only at hap ⊢
          rw [hap, bsome, bsome]
        | none =>
          have hz : Ar.std.zeq (s.1.length : Int) (s.1.length : Int) = true := zeqS _
          have hap := ap_st (ls := s.2) ((i : Int), ((k + 1 : Nat) : Int), (s.1.length : Int)) (by omega)
          have hapl : ap Ar.std (eInt (cNs s.1)) [.int .i64 (x : Int)] = some (eInt (cNs (s.1 ++ [x]))) := by
            have h2 : ap Ar.std (enc (cI .i64) (cNs s.1)) [.int .i64 (x : Int)] = some (enc (cI .i64) (cNs s.1 ++ [(x : Int)])) := ap_enc1 rfl (by rw [cNs_len]; omega)
            unfold eInt
            rw [h2]; simp only [cNs, List.map_append, List.map_cons, List.map_nil]
          rw [Option.elim_none, Option.elim_none, hz, cond_true, hapl, bsome, bsome]
          dsimp only at hap ⊢
          rw [hap, bsome, bsome])
    (by
      unfold R29L1
      dsimp only
      rw [show Ar.std.zle (([(1 : Int), 2, 3].length + 1 : Nat) : Int) 3 = false from by rw [std_zle]; decide, cond_false])
  exact key
theorem seeR_ok {m : Nat} {l : List St3} (S : Sys m l) {i : Nat} {s : SeeS} {c : Nat} (h : SeeI m i s c) (hi : i < s.1.length) : SeeI m i (seeR m l i s) (c + 3) ∧ s.1.length ≤ (seeR m l i s).1.length := seeF_ok S [1, 2, 3] h hi
theorem SeeI.next {m i : Nat} {s : SeeS} {c : Nat} (h : SeeI m i s c) : SeeI m (i + 1) s c := ⟨h.len, h.lt, h.stp⟩
theorem R29L2_eq {m : Nat} {l : List St3} (S : Sys m l) : ∀ (k i : Nat) (s : SeeS), i + k = 70 → SeeI m i s (3 * i) →
    iter (R29L2 Ar.std (m : Int) (eSt l)) (eInt (cNs s.1), eSt s.2, (i : Int)) = some (eInt (cNs (runR m l k i s).1), eSt (runR m l k i s).2)
  | 0, i, s, hk, h => by
    have hlen := h.len
    have hlt : Ar.std.zlt (i : Int) (Ar.std.len (eInt (cNs s.1))) = false := by rw [eIc_len, std_zlt]; exact decide_eq_false (by omega)
    refine iter_inr ?_
    unfold R29L2 runR
    dsimp only
    rw [hlt, cond_false]
  | k + 1, i, s, hk, h => by
    unfold runR
    by_cases hi : i < s.1.length
    · have hlt : Ar.std.zlt (i : Int) (Ar.std.len (eInt (cNs s.1))) = true := by rw [eIc_len]; exact ltN hi
      have hR := seeR_ok S h hi
      have hstep : R29L2 Ar.std (m : Int) (eSt l) (eInt (cNs s.1), eSt s.2, (i : Int)) = some (.inl (eInt (cNs (seeR m l i s).1), eSt (seeR m l i s).2, ((i + 1 : Nat) : Int))) := by
        unfold R29L2
        dsimp only
        rw [hlt, cond_true, R29L1_eq S h (by omega) hi, bsome]
        dsimp only
        rw [inc (by omega : i < 70) (by decide)]
      rw [iter_inl hstep, decide_eq_true hi, cond_true]
      exact R29L2_eq S k (i + 1) _ (by omega) (by have := hR.1.next; rw [Nat.mul_add]; exact this)
    · have hlt : Ar.std.zlt (i : Int) (Ar.std.len (eInt (cNs s.1))) = false := by rw [eIc_len, std_zlt]; exact decide_eq_false (by omega)
      rw [decide_eq_false hi, cond_false]
      refine iter_inr ?_
      unfold R29L2
      dsimp only
      rw [hlt, cond_false]
end Go.Am

/- The refinement layer: Seen. -/
set_option maxRecDepth 100000
set_option linter.unusedVariables false
set_option linter.unusedSimpArgs false
namespace Go.Am
open Go
theorem runR_mono {m : Nat} {l : List St3} (S : Sys m l) : ∀ (k i : Nat) (s : SeeS), i + k = 70 → SeeI m i s (3 * i) → s.1.length ≤ (runR m l k i s).1.length ∧ (runR m l k i s).1.length ≤ 65 ∧ (runR m l k i s).2.length ≤ 210
  | 0, i, s, hk, h => by
    have := h.len; have := h.stp
    unfold runR; omega
  | k + 1, i, s, hk, h => by
    unfold runR
    by_cases hi : i < s.1.length
    · have hR := seeR_ok S h hi
      rw [decide_eq_true hi, cond_true]
      have := runR_mono S k (i + 1) _ (by omega) (by have := hR.1.next; rw [Nat.mul_add]; exact this)
      have := hR.2
      omega
    · rw [decide_eq_false hi, cond_false]
      have := h.len; have := h.stp
      omega
theorem R28L1_eq {m : Nat} {l : List St3} (S : Sys m l) : ∀ (k i : Nat) (s : SeeS), i + k = 70 → i ≤ 6 → SeeI m i s (3 * i) →
    iter (R28L1 Ar.std (FR m l (tF m l))) (eU s.1, eSt s.2, (i : Int)) = some (bif decide (6 < (runR m l k i s).1.length) then .inr () else .inl (eU (runR m l k i s).1, eSt (runR m l k i s).2))
  | 0, i, s, hk, h6, h => by omega
  | k + 1, i, s, hk, h6, h => by
    unfold runR
    by_cases hi : i < s.1.length
    · have hlt : Ar.std.zlt (i : Int) (Ar.std.len (eU s.1)) = true := by rw [eU_len]; exact ltN hi
      have hR := seeR_ok S h hi
      have hN : SeeI m (i + 1) (seeR m l i s) (3 * (i + 1)) := by have := hR.1.next; rw [Nat.mul_add]; exact this
      rw [decide_eq_true hi, cond_true]
      by_cases he : i = 6
      · have hz : Ar.std.zeq (i : Int) 6 = true := by rw [std_zeq]; exact decide_eq_true (by omega)
        have hmono := (runR_mono S k (i + 1) (seeR m l i s) (by omega) hN).1
        have h2 := hR.2
        rw [decide_eq_true (by omega), cond_true]
        refine iter_inr ?_
        unfold R28L1
        dsimp only
        rw [hlt, cond_true, hz, cond_true]
      · have hz : Ar.std.zeq (i : Int) 6 = false := by rw [std_zeq]; exact decide_eq_false (by omega)
        have hstep : R28L1 Ar.std (FR m l (tF m l)) (eU s.1, eSt s.2, (i : Int)) = some (.inl (eU (seeR m l i s).1, eSt (seeR m l i s).2, ((i + 1 : Nat) : Int))) := by
          unfold R28L1
          dsimp only
          rw [hlt, cond_true, hz, cond_false, R28L0_eq S h (by omega) hi, bsome]
          dsimp only
          rw [inc (by omega : i < 70) (by decide)]
        rw [iter_inl hstep]
        exact R28L1_eq S k (i + 1) _ (by omega) (by omega) hN
    · have hlt : Ar.std.zlt (i : Int) (Ar.std.len (eU s.1)) = false := by rw [eU_len, std_zlt]; exact decide_eq_false (by omega)
      rw [decide_eq_false hi, cond_false, decide_eq_false (by omega), cond_false]
      refine iter_inr ?_
      unfold R28L1
      dsimp only
      rw [hlt, cond_false]
/-- The states and steps that are found. -/
def sRun (n : Int) (l : List St3) : SeeS := runR n l 70 0 ([quietN n l 1], [])
/-- What is seen, and what is wrong. -/
def seenS (n : Int) (l : List St3) : Int × List St3 × Int :=
  bif vSys n l then bif decide (6 < (sRun n l).1.length) then (0, [], 4) else (((sRun n l).1.length : Int), (sRun n l).2, 0) else (0, [], 50)
theorem start {m : Nat} {l : List St3} (S : Sys m l) : SeeI m 0 ([quietN m l 1], []) (3 * 0) := by
  have hq : quietN (m : Int) l 1 < 2 ^ m := quietN_ltB S.sb (Nat.one_lt_two_pow (by have := S.pos; omega))
  refine ⟨?_, fun x hx => by rw [List.mem_singleton] at hx; subst hx; exact hq, Nat.le_refl _⟩
  have := List.countP_le_length (p := fun k => !([quietN (m : Int) l 1] : List Nat).contains k) (l := List.range 64)
  simp only [List.length_range] at this
  show 1 + c64 [quietN (m : Int) l 1] ≤ 65
  unfold c64; omega
theorem R28_eq (n : Int) (l : List St3) (hl : l.length < Lg) : R28 Ar.std n (eSt l) = some ((seenS n l).1, eSt (seenS n l).2.1, (seenS n l).2.2) := by
  unfold R28 seenS
  rw [R58_eq n l hl, bsome]
  cases hv : vSys n l with
  | false => rfl
  | true =>
    obtain ⟨m, rfl, S⟩ := Sys.of hv
    have h1 := R62_eq S [] (by decide) rfl
    have h2 := R28L1_eq S 70 0 ([quietN m l 1], []) rfl (by decide) (start S)
    rw [cond_true, cond_true, Int.toNat_natCast, Sum.elim_inl]
    show (R62 Ar.std (eInt []) (FR m l (tF m l))).bind _ = _
    rw [h1, bsome]
    show (iter (R28L1 Ar.std (FR m l (tF m l))) (eU [quietN m l 1], eSt [], ((0 : Nat) : Int))).bind _ = _
    rw [h2, bsome]
    unfold sRun
    cases decide (6 < (runR m l 70 0 ([quietN m l 1], [])).1.length) with
    | true => rfl
    | false =>
      rw [cond_false, cond_false, Sum.elim_inl]
      dsimp only
      rw [eU_len]
theorem R29_eq (n : Int) (l : List St3) (hl : l.length < Lg) : R29 Ar.std n (eSt l) = some ((seenS n l).1, eSt (seenS n l).2.1, (seenS n l).2.2) := by
  unfold R29 seenS
  rw [R34_eq n l hl, bsome]
  cases hv : vSys n l with
  | false => rfl
  | true =>
    obtain ⟨m, rfl, S⟩ := Sys.of hv
    have hm6 := S.le
    have h1 := R73_eq (m : Int) (by omega) (by omega) S.ok 1 (by decide)
    have e1 : ((1 : Nat) : Int) = 1 := rfl
    rw [e1] at h1
    have h2 := R29L2_eq S 70 0 ([quietN m l 1], []) rfl (start S)
    rw [cond_true, cond_true, h1, bsome]
    show (iter (R29L2 Ar.std (m : Int) (eSt l)) (eInt (cNs [quietN m l 1]), eSt [], ((0 : Nat) : Int))).bind _ = _
    rw [h2, bsome]
    dsimp only
    unfold sRun
    rw [eIc_len]
    have hz : Ar.std.zlt 6 ((runR m l 70 0 ([quietN m l 1], [])).1.length : Int) = decide (6 < (runR m l 70 0 ([quietN m l 1], [])).1.length) := by rw [std_zlt]; exact decide_eq_decide.2 (by omega)
    rw [hz]
    cases decide (6 < (runR m l 70 0 ([quietN m l 1], [])).1.length) <;> rfl
theorem R30_same (x : Int) (l : List St3) (hl : l.length < Lg) : R30 Ar.std x (eSt l) x (eSt l) = some true := by
  have key := iter_any (step := R30L0 Ar.std (eSt l) (eSt l)) l (fun _ => false) (.inr ()) (.inl ()) (fun i r hx hi => by
    unfold R30L0
    rw [ltS hi, cond_true, gt_enc hx, bsome]
    dsimp only
    rw [bsome, deq_st, decide_eq_true rfl, cond_true, inc hi hl]; rfl) (by
    unfold R30L0
    rw [geS, cond_false])
  have hany : (l.any fun _ => false) = false := by simp
  rw [hany] at key
  unfold R30
  rw [zeqS, cond_true, zeqS, Bool.not_true, bsome, cond_false, key]; rfl
theorem seenS_len (n : Int) (l : List St3) : (seenS n l).2.1.length < Lg := by
  unfold seenS
  cases hv : vSys n l with
  | false => exact (by decide : (0 : Nat) < Lg)
  | true =>
    obtain ⟨m, rfl, S⟩ := Sys.of hv
    rw [cond_true]
    cases decide (6 < (sRun m l).1.length) with
    | true => exact (by decide : (0 : Nat) < Lg)
    | false =>
      have := (runR_mono S 70 0 ([quietN m l 1], []) rfl (start S)).2.2
      show (sRun m l).2.length < 9223372036854775808
      unfold sRun; omega
end Go.Am

/- The refinement layer: a search in breadth comes to the first word. No program in sight. -/
set_option maxRecDepth 100000
set_option linter.unusedVariables false
set_option linter.unusedSimpArgs false
namespace Go.Am
open Go
/-- The number of a word: words are in order of their numbers. -/
def num (w : List Int) : Nat := w.foldl (fun n a => 4 * n + a.toNat) 0
theorem num_snoc (w : List Int) (a : Int) : num (w ++ [a]) = 4 * num w + a.toNat := by simp [num, List.foldl_append]
def Lab (w : List Int) : Prop := ∀ a ∈ w, 1 ≤ a ∧ a ≤ 3
theorem Lab.snoc {w : List Int} {a : Int} : Lab (w ++ [a]) ↔ Lab w ∧ (1 ≤ a ∧ a ≤ 3) := by
  constructor
  · intro h; exact ⟨fun b hb => h b (by simp [hb]), h a (by simp)⟩
  · rintro ⟨h1, h2⟩ b hb
    rcases List.mem_append.1 hb with hb | hb
    · exact h1 b hb
    · rw [List.mem_singleton] at hb; subst hb; exact h2
/-- Where a word leads in both. -/
def pr (f g : Nat → Int → Nat) (q : Nat × Nat) (w : List Int) : Nat × Nat := (w.foldl f q.1, w.foldl g q.2)
theorem pr_snoc (f g : Nat → Int → Nat) (q : Nat × Nat) (w : List Int) (a : Int) : pr f g q (w ++ [a]) = (f (pr f g q w).1 a, g (pr f g q w).2 a) := by simp [pr, List.foldl_append]
/-- A word that the one shows and the other does not. -/
def Sep (f g : Nat → Int → Nat) (q : Nat × Nat) (w : List Int) : Prop := Lab w ∧ (pr f g q w).1 ≠ 0 ∧ (pr f g q w).2 = 0
section
variable {f g : Nat → Int → Nat} {q : Nat × Nat}
/-- What is so of the successor of a word. -/
def Done (f g : Nat → Int → Nat) (q : Nat × Nat) (R : List Int → Prop) (r : List Int) (b : Int) : Prop :=
  (pr f g q (r ++ [b])).1 = 0 ∨ ∃ r', R r' ∧ pr f g q r' = pr f g q (r ++ [b]) ∧ num r' ≤ num (r ++ [b])
theorem cover {R : List Int → Prop} {N : Nat} (hf0 : ∀ a, f 0 a = 0) (hroot : R []) (hd : ∀ r b, R r → 1 ≤ b → b ≤ 3 → num (r ++ [b]) < N → Done f g q R r b) (w : List Int) :
    Lab w → (pr f g q w).1 ≠ 0 → num w < N → ∃ r, R r ∧ pr f g q r = pr f g q w ∧ num r ≤ num w := by
  induction w using snoc_indR with
  | h0 => intro _ _ _; exact ⟨[], hroot, rfl, Nat.le_refl _⟩
  | h1 w a ih =>
    intro hl hx hn
    obtain ⟨hl1, hl2⟩ := Lab.snoc.1 hl
    rw [num_snoc] at hn
    have hx' : (pr f g q w).1 ≠ 0 := by
      intro h0
      rw [pr_snoc, h0, hf0] at hx
      exact hx rfl
    obtain ⟨r, hr, e, hrn⟩ := ih hl1 hx' (by omega)
    have hp : pr f g q (r ++ [a]) = pr f g q (w ++ [a]) := by rw [pr_snoc, pr_snoc, e]
    have hle : num (r ++ [a]) ≤ num (w ++ [a]) := by rw [num_snoc, num_snoc]; omega
    rcases hd r a hr hl2.1 hl2.2 (by rw [num_snoc] at hle ⊢; rw [num_snoc] at hle; omega) with h | ⟨r', h1, h2, h3⟩
    · rw [hp] at h; exact absurd h hx
    · exact ⟨r', h1, by rw [h2, hp], Nat.le_trans h3 hle⟩
/-- The words that are known. -/
def Kn (pro : List (List Int)) (line : List El) (r : List Int) : Prop := r ∈ pro ∨ ∃ e ∈ line, e.2.2 = r
structure LI (f g : Nat → Int → Nat) (q : Nat × Nat) (pro : List (List Int)) (line : List El) (kn : List (Nat × Nat)) : Prop where
  el : ∀ e ∈ line, (e.1, e.2.1) = pr f g q e.2.2 ∧ e.1 ≠ 0 ∧ Lab e.2.2
  srt : line.Pairwise fun a b => num a.2.2 < num b.2.2
  prn : ∀ p ∈ pro, (pr f g q p).2 ≠ 0 ∧ ∀ e ∈ line, num p < num e.2.2
  root : Kn pro line []
  kn1 : ∀ p ∈ kn, ∃ r, Kn pro line r ∧ pr f g q r = p
  don : ∀ p ∈ pro, ∀ b : Int, 1 ≤ b → b ≤ 3 → Done f g q (Kn pro line) p b
/-- Within a round: a labels of the first one are done. -/
structure LJ (f g : Nat → Int → Nat) (q : Nat × Nat) (pro : List (List Int)) (e : El) (a : Nat) (s : List El × List (Nat × Nat)) : Prop extends LI f g q pro s.1 s.2 where
  hd : s.1.head? = some e
  ge : ∀ e' ∈ s.1, num e'.2.2 ≤ 4 * num e.2.2 + a
  de : ∀ b : Int, 1 ≤ b → b ≤ a → Done f g q (Kn pro s.1) e.2.2 b
theorem Kn.mono {pro : List (List Int)} {line : List El} {r : List Int} (e : El) (h : Kn pro line r) : Kn pro (line ++ [e]) r := by
  rcases h with h | ⟨e', h1, h2⟩
  · exact .inl h
  · exact .inr ⟨e', by simp [h1], h2⟩
theorem Done.mono {R R' : List Int → Prop} (hR : ∀ r, R r → R' r) {r : List Int} {b : Int} (h : Done f g q R r b) : Done f g q R' r b := by
  rcases h with h | ⟨r', h1, h2, h3⟩
  · exact .inl h
  · exact .inr ⟨r', hR r' h1, h2, h3⟩
theorem LJ.step {pro : List (List Int)} {e : El} {a : Nat} {s : List El × List (Nat × Nat)} (h : LJ f g q pro e a s) (ha : a < 3) : LJ f g q pro e (a + 1) (inn f g e s ((a + 1 : Nat) : Int)) := by
  have he : e ∈ s.1 := List.mem_of_mem_head? (by rw [h.hd]; rfl)
  obtain ⟨ep, ex, el⟩ := h.el e he
  have hps : pr f g q (e.2.2 ++ [((a + 1 : Nat) : Int)]) = (f e.1 ((a + 1 : Nat) : Int), g e.2.1 ((a + 1 : Nat) : Int)) := by
    rw [pr_snoc, ← ep]
  have hnum : num (e.2.2 ++ [((a + 1 : Nat) : Int)]) = 4 * num e.2.2 + (a + 1) := by rw [num_snoc]; simp
  have hprn : ∀ p ∈ pro, num p < num e.2.2 := fun p hp => (h.prn p hp).2 e he
  have last : ∀ {s' : List El × List (Nat × Nat)}, (∀ r, Kn pro s.1 r → Kn pro s'.1 r) → Done f g q (Kn pro s'.1) e.2.2 ((a + 1 : Nat) : Int) → ∀ b : Int, 1 ≤ b → b ≤ ((a + 1 : Nat) : Int) → Done f g q (Kn pro s'.1) e.2.2 b := by
    intro s' hm hl b hb1 hb2
    by_cases hb : b = ((a + 1 : Nat) : Int)
    · subst hb; exact hl
    · exact (h.de b hb1 (by omega)).mono hm
  unfold inn
  cases h1 : decide (f e.1 ((a + 1 : Nat) : Int) = 0) with
  | true =>
    refine { h with ge := fun e' he' => by have := h.ge e' he'; omega, de := last (fun _ h => h) (.inl ?_) }
    rw [hps]; exact of_decide_eq_true h1
  | false =>
    have hx0 : f e.1 ((a + 1 : Nat) : Int) ≠ 0 := of_decide_eq_false h1
    cases h2 : s.2.contains (f e.1 ((a + 1 : Nat) : Int), g e.2.1 ((a + 1 : Nat) : Int)) with
    | true =>
      refine { h with ge := fun e' he' => by have := h.ge e' he'; omega, de := last (fun _ h => h) (.inr ?_) }
      obtain ⟨r, hr, hrp⟩ := h.kn1 _ (List.contains_iff_mem.1 h2)
      refine ⟨r, hr, by rw [hrp, hps], ?_⟩
      rw [hnum]
      rcases hr with hr | ⟨e', he', rfl⟩
      · have := hprn r hr; omega
      · have := h.ge e' he'; omega
    | false =>
      simp only [Bool.not_false, Bool.and_self, cond_true]
      have hm : ∀ r, Kn pro s.1 r → Kn pro (s.1 ++ [(f e.1 ((a + 1 : Nat) : Int), g e.2.1 ((a + 1 : Nat) : Int), e.2.2 ++ [((a + 1 : Nat) : Int)])]) r := fun r hr => hr.mono _
      refine { el := fun e' he' => ?_, srt := ?_, prn := fun p hp => ⟨(h.prn p hp).1, fun e' he' => ?_⟩, root := hm _ h.root, kn1 := fun p hp => ?_, don := fun p hp b b1 b2 => (h.don p hp b b1 b2).mono hm, hd := ?_, ge := fun e' he' => ?_, de := last hm (.inr ⟨_, .inr ⟨_, List.mem_append.2 (.inr (List.mem_singleton.2 rfl)), rfl⟩, rfl, Nat.le_refl _⟩) }
      · rcases List.mem_append.1 he' with he' | he'
        · exact h.el e' he'
        · rw [List.mem_singleton] at he'; subst he'
          exact ⟨hps.symm, hx0, Lab.snoc.2 ⟨el, by omega, by omega⟩⟩
      · refine List.pairwise_append.2 ⟨h.srt, List.pairwise_singleton _ _, fun e1 he1 e2 he2 => ?_⟩
        rw [List.mem_singleton] at he2; subst he2
        show num e1.2.2 < num (e.2.2 ++ [((a + 1 : Nat) : Int)])
        rw [hnum]; have := h.ge e1 he1; omega
      · rcases List.mem_append.1 he' with he' | he'
        · exact (h.prn p hp).2 e' he'
        · rw [List.mem_singleton] at he'; subst he'
          show num p < num (e.2.2 ++ [((a + 1 : Nat) : Int)])
          rw [hnum]; have := hprn p hp; omega
      · rcases List.mem_append.1 hp with hp | hp
        · obtain ⟨r, hr, e'⟩ := h.kn1 p hp
          exact ⟨r, hm r hr, e'⟩
        · rw [List.mem_singleton] at hp; subst hp
          exact ⟨_, .inr ⟨_, List.mem_append.2 (.inr (List.mem_singleton.2 rfl)), rfl⟩, hps⟩
      · show (s.1 ++ [_]).head? = some e
        rw [List.head?_append, h.hd]; rfl
      · rcases List.mem_append.1 he' with he' | he'
        · have := h.ge e' he'; omega
        · rw [List.mem_singleton] at he'; subst he'
          show num (e.2.2 ++ [((a + 1 : Nat) : Int)]) ≤ _
          rw [hnum]; omega
end
end Go.Am

/- The refinement layer: the program's search comes to the first word. -/
set_option maxRecDepth 100000
set_option linter.unusedVariables false
set_option linter.unusedSimpArgs false
namespace Go.Am
open Go
section
variable {f g : Nat → Int → Nat} {q : Nat × Nat}
theorem LI.sepless {pro : List (List Int)} {line : List El} {kn : List (Nat × Nat)} (hf0 : ∀ a, f 0 a = 0) (h : LI f g q pro line kn) (N : Nat) (hN : ∀ e ∈ line, N ≤ num e.2.2) (w : List Int) (hw : Sep f g q w) : N ≤ num w := by
  rcases Nat.lt_or_ge (num w) N with hn | hn
  · obtain ⟨r, hr, hp, hrn⟩ := cover (R := Kn pro line) hf0 h.root (fun r b hr b1 b2 hnum => by
      rcases hr with hr | ⟨e, he, rfl⟩
      · exact h.don r hr b b1 b2
      · have := hN e he
        rw [num_snoc] at hnum; omega) w hw.1 hw.2.1 hn
    rcases hr with hr | ⟨e, he, rfl⟩
    · have := (h.prn r hr).1
      rw [hp] at this
      exact absurd hw.2.2 this
    · have := hN e he; omega
  · exact hn
theorem look_min {m m' : Nat} (hm : m ≤ 6) (hm' : m' ≤ 6) (hf : ∀ s lab, s < 2 ^ m → f s lab < 2 ^ m) (hg : ∀ s lab, s < 2 ^ m' → g s lab < 2 ^ m') (hf0 : ∀ a, f 0 a = 0) :
    ∀ (k : Nat) (pro : List (List Int)) (line : List El) (kn : List (Nat × Nat)), Good m m' (line, kn) 5000 → 2 * cnt kn + line.length < k → LI f g q pro line kn → (∀ e ∈ line, ∀ h ∈ line.head?, num e.2.2 ≤ 4 * num h.2.2) →
    match look f g k line kn with
    | none => ∀ w, ¬ Sep f g q w
    | some t => Sep f g q t ∧ ∀ w, Sep f g q w → num t ≤ num w
  | 0, pro, line, kn, _, hk, _, _ => by omega
  | k + 1, pro, [], kn, _, hk, hI, _ => by
    unfold look
    intro w hw
    have := hI.sepless hf0 (num w + 1) (fun e he => by cases he) w hw
    omega
  | k + 1, pro, e :: r, kn, hG, hk, hI, hgen => by
    unfold look
    have he := hI.el e (by simp)
    by_cases hy : e.2.1 = 0
    · rw [decide_eq_true hy, cond_true]
      refine ⟨⟨he.2.2, ?_, ?_⟩, fun w hw => hI.sepless hf0 _ (fun e' he' => ?_) w hw⟩
      · rw [← he.1]; exact he.2.1
      · rw [← he.1]; exact hy
      · rcases List.mem_cons.1 he' with rfl | he'
        · exact Nat.le_refl _
        · exact Nat.le_of_lt ((List.pairwise_cons.1 hI.srt).1 e' he')
    · rw [decide_eq_false hy, cond_false]
      have hE := hG.el e (by simp)
      have hfold := inn_fold hm hm' hf hg hE.1 [1, 2, 3] (e :: r, kn) hG hE.2
      have J0 : LJ f g q pro e 0 (e :: r, kn) := { hI with hd := rfl, ge := fun e' he' => by have := hgen e' he' e rfl; omega, de := fun b b1 b2 => by omega }
      have J1 := J0.step (by decide)
      have J2 := J1.step (by decide)
      have J3 := J2.step (by decide)
      have hs3 : [(1 : Int), 2, 3].foldl (inn f g e) (e :: r, kn) = inn f g e (inn f g e (inn f g e (e :: r, kn) ((0 + 1 : Nat) : Int)) ((0 + 1 + 1 : Nat) : Int)) ((0 + 1 + 1 + 1 : Nat) : Int) := rfl
      rw [← hs3] at J3
      generalize [(1 : Int), 2, 3].foldl (inn f g e) (e :: r, kn) = s at J3 hfold
      obtain ⟨f1, f2, f3, f4⟩ := hfold
      obtain ⟨ln, kn'⟩ := s
      have hhd := J3.hd
      cases ln with
      | nil => cases hhd
      | cons e' t =>
        have hee : e' = e := by simpa using hhd
        subst hee
        have hlen : 1 ≤ (e' :: t).length := by simp
        have hsrt := List.pairwise_cons.1 J3.srt
        have hK : ∀ r, Kn pro (e' :: t) r → Kn (e'.2.2 :: pro) t r := fun r hr => by
          rcases hr with hr | ⟨x, hx, rfl⟩
          · exact .inl (by simp [hr])
          · rcases List.mem_cons.1 hx with rfl | hx
            · exact .inl (by simp)
            · exact .inr ⟨x, hx, rfl⟩
        have hI' : LI f g q (e'.2.2 :: pro) t kn' := {
          el := fun x hx => J3.el x (by simp [hx])
          srt := hsrt.2
          prn := fun p hp => by
            rcases List.mem_cons.1 hp with rfl | hp
            · exact ⟨by rw [← he.1]; exact hy, fun x hx => hsrt.1 x hx⟩
            · exact ⟨(J3.prn p hp).1, fun x hx => (J3.prn p hp).2 x (by simp [hx])⟩
          root := hK _ J3.root
          kn1 := fun p hp => by obtain ⟨r, h1, h2⟩ := J3.kn1 p hp; exact ⟨r, hK r h1, h2⟩
          don := fun p hp b b1 b2 => by
            rcases List.mem_cons.1 hp with rfl | hp
            · exact (J3.de b b1 (by simpa using b2)).mono hK
            · exact (J3.don p hp b b1 b2).mono hK }
        have hG' : Good m m' (t, kn') 5000 := ⟨by have := f1.len; simp only [List.length_cons] at this; simp only; omega, fun x hx => f1.el x (by simp [hx])⟩
        refine look_min hm hm' hf hg hf0 k (e'.2.2 :: pro) t kn' hG' (by simp only [List.length_cons] at f3 f4 hk; simp only at f2; omega) hI' (fun x hx h hh => ?_)
        have h1 := J3.ge x (by simp [hx])
        have h2 := hsrt.1 h (List.mem_of_mem_head? hh)
        omega
end
end Go.Am

/- The refinement layer: what the program's Shows answers. -/
set_option maxRecDepth 100000
set_option linter.unusedVariables false
set_option linter.unusedSimpArgs false
namespace Go.Am
open Go
/-- The first states of two systems. -/
def q0 (m : Nat) (l : List St3) (m' : Nat) (l' : List St3) : Nat × Nat := (quietN m l 1, quietN m' l' 1)
theorem pr_behind (m : Nat) (l : List St3) (m' : Nat) (l' : List St3) (w : List Int) : pr (comesN m l) (comesN m' l') (q0 m l m' l') w = (behindN m l w, behindN m' l' w) := rfl
theorem hids_sub (l : List St3) : ∀ (k s : Nat), Wi s (hids l k s)
  | 0, s => Wi.refl s
  | k + 1, s => (Wi.left s _).trans (hids_sub l k _)
theorem quiet_pos (m : Nat) (l : List St3) : quietN (m : Int) l 1 ≠ 0 := by
  have := (hids_sub l m 1).le
  rw [quietN_nat]; omega
theorem shw_min {m m' : Nat} {l l' : List St3} (S : Sys m l) (S' : Sys m' l') :
    match look (comesN m l) (comesN m' l') 9000 [(quietN m l 1, quietN m' l' 1, [])] [(quietN m l 1, quietN m' l' 1)] with
    | none => ∀ w, ¬ Sep (comesN m l) (comesN m' l') (q0 m l m' l') w
    | some t => Sep (comesN m l) (comesN m' l') (q0 m l m' l') t ∧ ∀ w, Sep (comesN m l) (comesN m' l') (q0 m l m' l') w → num t ≤ num w := by
  have b1 := behindN_ltB S []
  have b2 := behindN_ltB S' []
  have hc := cnt_le [(quietN (m : Int) l 1, quietN (m' : Int) l' 1)]
  have hG : Good m m' ([(quietN m l 1, quietN m' l' 1, [])], [(quietN m l 1, quietN m' l' 1)]) 5000 := ⟨by simp only [List.length_cons, List.length_nil]; omega, fun e he => by
    rw [List.mem_singleton] at he; subst he; exact ⟨⟨b1, b2⟩, by simp only [List.length_nil]; omega⟩⟩
  refine look_min S.le S'.le (fun s lab h => comesN_ltB S.sb h lab) (fun s lab h => comesN_ltB S'.sb h lab) (fun a => comesN_zero _ l a) 9000 [] _ _ hG (by simp only [List.length_cons, List.length_nil]; omega) ?_ (fun e he h hh => ?_)
  · refine { el := fun e he => ?_, srt := List.pairwise_singleton _ _, prn := fun p hp => (by cases hp), root := .inr ⟨_, List.mem_singleton.2 rfl, rfl⟩, kn1 := fun p hp => ?_, don := fun p hp => (by cases hp) }
    · rw [List.mem_singleton] at he; subst he
      exact ⟨rfl, quiet_pos m l, fun a ha => by cases ha⟩
    · rw [List.mem_singleton] at hp; subst hp
      exact ⟨[], .inr ⟨_, List.mem_singleton.2 rfl, rfl⟩, rfl⟩
  · rw [List.mem_singleton] at he; subst he; simp [num]
end Go.Am

/- The refinement layer: the document's search, one round. -/
set_option maxRecDepth 100000
set_option linter.unusedVariables false
set_option linter.unusedSimpArgs false
namespace Go.Am
open Go
theorem num_inj : ∀ {u w : List Int}, Lab u → Lab w → num u = num w → u = w := by
  intro u
  induction u using snoc_indR with
  | h0 =>
    intro w _ hw h
    rcases List.eq_nil_or_concat w with rfl | ⟨w, a, rfl⟩
    · rfl
    · rw [List.concat_eq_append] at *
      have := (Lab.snoc.1 hw).2
      rw [num_snoc] at h
      have h0 : num [] = 0 := rfl
      omega
  | h1 u b ih =>
    intro w hu hw h
    rcases List.eq_nil_or_concat w with rfl | ⟨w, a, rfl⟩
    · have := (Lab.snoc.1 hu).2
      rw [num_snoc] at h
      have h0 : num [] = 0 := rfl
      omega
    · rw [List.concat_eq_append] at *
      have h1 := Lab.snoc.1 hu
      have h2 := Lab.snoc.1 hw
      rw [num_snoc, num_snoc] at h
      have := ih h1.1 h2.1 (by omega)
      rw [this, show b = a from by omega]
/-- The table of the pairs that have been. -/
def bm (kn : List (Nat × Nat)) : List D := (List.range 4096).map fun k => .bool (kn.contains (k / 64, k % 64))
theorem bm_get (kn : List (Nat × Nat)) {x y : Nat} (hx : x < 64) (hy : y < 64) : gc Ar.std cB (bm kn) (64 * x + y) = some (kn.contains (x, y)) := by
  have e1 : (64 * x + y) / 64 = x := by omega
  have e2 : (64 * x + y) % 64 = y := by omega
  show (Ar.std.lget (bm kn) (64 * x + y)).bind cB.un = _
  have : Ar.std.lget (bm kn) (64 * x + y) = some (.bool (kn.contains (x, y))) := by
    rw [std_lget, bm, List.getElem?_map, List.getElem?_range (by omega), Option.map_some, e1, e2]
  rw [this, bsome, cB_un]
theorem bm_lget (kn : List (Nat × Nat)) {x y : Nat} (hx : x < 64) (hy : y < 64) : Ar.std.lget (bm kn) (64 * x + y) = some (.bool (kn.contains (x, y))) := by
  have e1 : (64 * x + y) / 64 = x := by omega
  have e2 : (64 * x + y) % 64 = y := by omega
  rw [std_lget, bm, List.getElem?_map, List.getElem?_range (by omega), Option.map_some, e1, e2]
theorem bm_set (kn : List (Nat × Nat)) {x y : Nat} (hx : x < 64) (hy : y < 64) : Ar.std.lset (bm kn) (64 * x + y) (.bool true) = bm (kn ++ [(x, y)]) := by
  rw [std_lset]
  refine List.ext_getElem? fun j => ?_
  rw [List.getElem?_set]
  by_cases hj : j < 4096
  · have h2 : (bm (kn ++ [(x, y)]))[j]? = some (.bool ((kn ++ [(x, y)]).contains (j / 64, j % 64))) := by
      rw [bm, List.getElem?_map, List.getElem?_range hj, Option.map_some]
    have h3 : (bm kn)[j]? = some (.bool (kn.contains (j / 64, j % 64))) := by
      rw [bm, List.getElem?_map, List.getElem?_range hj, Option.map_some]
    rw [h2, h3]
    by_cases h : 64 * x + y = j
    · subst h
      have e1 : (64 * x + y) / 64 = x := by omega
      have e2 : (64 * x + y) % 64 = y := by omega
      have hl : 64 * x + y < (bm kn).length := by simp [bm]; omega
      rw [if_pos rfl, if_pos hl, e1, e2]; simp
    · rw [if_neg h]
      have hne : ¬ ((j / 64, j % 64) = (x, y)) := by
        rw [Prod.mk.injEq]; omega
      have : (kn ++ [(x, y)]).contains (j / 64, j % 64) = kn.contains (j / 64, j % 64) := by
        have hb : ((j / 64, j % 64) == (x, y)) = false := by simpa using hne
        simp only [List.contains_append, List.contains_cons, hb, List.contains_nil, Bool.or_false]
      rw [this]
  · have h1 : (bm kn)[j]? = none := by simp [bm]; omega
    have h2 : (bm (kn ++ [(x, y)]))[j]? = none := by simp [bm]; omega
    by_cases h : 64 * x + y = j
    · omega
    · rw [if_neg h, h1, h2]
end Go.Am

/- The refinement layer: the document's search, the labels behind one word. -/
set_option maxRecDepth 100000
set_option linter.unusedVariables false
set_option linter.unusedSimpArgs false
namespace Go.Am
open Go
abbrev RS := List (List Int) × List (Nat × Nat)
/-- One label behind a word: it stops where the word is one that the other has not. -/
def rin (f g : Nat → Int → Nat) (e : El) (s : RS) (lab : Int) : RS ⊕ List Int :=
  bif decide (f e.1 lab = 0) || s.2.contains (f e.1 lab, g e.2.1 lab) then .inl s
  else bif decide (g e.2.1 lab = 0) then .inr (e.2.2 ++ [lab]) else .inl (s.1 ++ [e.2.2 ++ [lab]], s.2 ++ [(f e.1 lab, g e.2.1 lab)])
def rinX (f g : Nat → Int → Nat) (e : El) (s : RS) (lab : Int) : RS ⊕ ((List D × List D) ⊕ (List D × List D)) := (rin f g e s lab).elim .inl (fun v => .inr (.inr (eInt v, bm s.2)))
theorem rinX_len {f g : Nat → Int → Nat} {e : El} {s s' : RS} {lab : Int} {n : Nat} (h : rinX f g e s lab = .inl s') (hI : s.1.length ≤ n) : s'.1.length ≤ n + 1 := by
  unfold rinX rin at h
  cases h1 : (decide (f e.1 lab = 0) || s.2.contains (f e.1 lab, g e.2.1 lab)) with
  | true =>
    rw [h1, cond_true, Sum.elim_inl, Sum.inl.injEq] at h
    subst h; omega
  | false =>
    rw [h1, cond_false] at h
    cases h2 : decide (g e.2.1 lab = 0) with
    | true => rw [h2, cond_true, Sum.elim_inr] at h; cases h
    | false =>
      rw [h2, cond_false, Sum.elim_inl, Sum.inl.injEq] at h
      subst h
      simp only [List.length_append, List.length_cons, List.length_nil]; omega
theorem jn_eq {α ρ : Type} (k : α → Option ρ) (f : (α → Option ρ) → Option ρ) : jn k f = f k := rfl
theorem ix64 (x y : Nat) : Ar.std.nat (Ar.std.zadd (Ar.std.zadd 0 (Ar.std.zmul (x : Int) (Int.ofNat 64))) (Ar.std.zmul (y : Int) (Int.ofNat 1))) = 64 * x + y := by
  simp only [std_nat, std_zadd, std_zmul, Int.ofNat_eq_natCast]; omega
theorem R24L0_eq {m m' : Nat} {l l' : List St3} (S : Sys m l) (S' : Sys m' l') (e : El) (he : e.1 = behindN m l e.2.2 ∧ e.2.1 = behindN m' l' e.2.2) (hel : e.2.2.length ≤ 5000) (s0 : RS) (h0 : s0.1.length ≤ 5000) :
    iter (R24L0 Ar.std (m : Int) (eSt l) (m' : Int) (eSt l') (eInt e.2.2)) (eLs s0.1, 1, bm s0.2) =
      some (foldE (rinX (comesN m l) (comesN m' l') e) (fun s => .inl (eLs s.1, bm s.2)) [1, 2, 3] s0) := by
  have hm6 := S.le
  have hm6' := S'.le
  have key := iter_listI (step := R24L0 Ar.std (m : Int) (eSt l) (m' : Int) (eSt l') (eInt e.2.2)) [(1 : Int), 2, 3] (fun (s : RS) i => (eLs s.1, ((i + 1 : Nat) : Int), bm s.2)) (rinX (comesN m l) (comesN m' l') e) (fun s => .inl (eLs s.1, bm s.2)) (fun i s => s.1.length ≤ 5000 + i)
    (fun i lab s hlab hi hI => by
      have hi3 : i < 3 := hi
      have hl := lab3 hi3 hlab
      have hap0 : ap Ar.std [] (eInt e.2.2) = some (eInt e.2.2) := ap_enc0 (by omega)
      have hap : ap Ar.std (eInt e.2.2) [.int .i64 lab] = some (eInt (e.2.2 ++ [lab])) := ap_enc1 rfl (by omega)
      have hlen : (e.2.2 ++ [lab]).length < Lg := by rw [List.length_append]; show _ < 9223372036854775808; simp; omega
      have hx := R64_eq (m : Int) (by omega) (by omega) S.ok (e.2.2 ++ [lab]) hlen
      have hy := R64_eq (m' : Int) (by omega) (by omega) S'.ok (e.2.2 ++ [lab]) hlen
      have bx := lt64 hm6 (behindN_ltB S (e.2.2 ++ [lab]))
      have by' := lt64 hm6' (behindN_ltB S' (e.2.2 ++ [lab]))
      rw [behindN_snoc, ← he.1] at hx bx
      rw [behindN_snoc, ← he.2] at hy by'
      have hinc : Ar.std.wrp .i64 (Ar.std.zadd ((i + 1 : Nat) : Int) 1) = ((i + 1 + 1 : Nat) : Int) := inc (by omega : i + 1 < 9) (by decide)
      have hap2 := ap_ls1 s.1 (e.2.2 ++ [lab]) (by omega)
      have hls : (s.1 ++ [e.2.2 ++ [lab]]).length = s.1.length + 1 := by simp
      constructor
      · subst hl
        unfold R24L0 rinX rin
        dsimp only
        rw [le3 hi3, cond_true]
        rw [jn_eq, hap0, bsome, hap, bsome, hx, bsome, hy, bsome, zeqN, zeqN, hinc]
        generalize comesN m l e.1 ((i + 1 : Nat) : Int) = x at bx
        generalize comesN m' l' e.2.1 ((i + 1 : Nat) : Int) = y at by'
        cases hx0 : decide (x = 0) with
        | true => rfl
        | false =>
          rw [cond_false, ckN, bsome, ckL bx, bsome, ckN, bsome, ckL by', bsome, ix64, bm_get s.2 bx by', bsome, bsome]
          cases hc : s.2.contains (x, y) with
          | true => rfl
          | false =>
            rw [cond_false]
            cases hy0 : decide (y = 0) with
            | true => rfl
            | false =>
              rw [cond_false, bsome, bsome, bsome, bsome, bm_lget s.2 bx by', bsome, hap2, bsome, bm_set s.2 bx by']; rfl
      · intro s' hs'
        exact rinX_len hs' hI)
    (fun s _ => by
      unfold R24L0
      dsimp only
      rw [show Ar.std.zle (([(1 : Int), 2, 3].length + 1 : Nat) : Int) 3 = false from by rw [std_zle]; decide, cond_false]) s0 (by omega)
  exact key
end Go.Am

/- The refinement layer: the document's search comes to the first word; one word. -/
set_option maxRecDepth 100000
set_option linter.unusedVariables false
set_option linter.unusedSimpArgs false
namespace Go.Am
open Go
section
variable {f g : Nat → Int → Nat} {q : Nat × Nat}
def elW (f g : Nat → Int → Nat) (q : Nat × Nat) (w : List Int) : El := ((pr f g q w).1, (pr f g q w).2, w)
def NZ (l : List El) : Prop := ∀ e ∈ l, e.2.1 ≠ 0
/-- A word that is one, and the first. -/
def First (f g : Nat → Int → Nat) (q : Nat × Nat) (v : List Int) : Prop := Sep f g q v ∧ ∀ w, Sep f g q w → num v ≤ num w
theorem first_of {pro : List (List Int)} {e : El} {a : Nat} {s : List El × List (Nat × Nat)} (hf0 : ∀ a, f 0 a = 0) (h : LJ f g q pro e a s) (ha : a < 3) (hnz : NZ s.1)
    (hx : f e.1 ((a + 1 : Nat) : Int) ≠ 0) (hy : g e.2.1 ((a + 1 : Nat) : Int) = 0) : First f g q (e.2.2 ++ [((a + 1 : Nat) : Int)]) := by
  have he : e ∈ s.1 := List.mem_of_mem_head? (by rw [h.hd]; rfl)
  obtain ⟨ep, ex, el⟩ := h.el e he
  have hps : pr f g q (e.2.2 ++ [((a + 1 : Nat) : Int)]) = (f e.1 ((a + 1 : Nat) : Int), g e.2.1 ((a + 1 : Nat) : Int)) := by
    rw [pr_snoc, ← ep]
  refine ⟨⟨Lab.snoc.2 ⟨el, by omega, by omega⟩, by rw [hps]; exact hx, by rw [hps]; exact hy⟩, fun w hw => ?_⟩
  rcases Nat.lt_or_ge (num w) (num (e.2.2 ++ [((a + 1 : Nat) : Int)])) with hn | hn
  · obtain ⟨r, hr, hp, _⟩ := cover (R := Kn pro s.1) hf0 h.root (fun r b hr b1 b2 hnum => by
      rcases hr with hr | ⟨e', he', rfl⟩
      · exact h.don r hr b b1 b2
      · by_cases hee : e' = e
        · subst hee
          refine h.de b b1 ?_
          rw [num_snoc, num_snoc] at hnum
          omega
        · have : num e.2.2 < num e'.2.2 := by
            have hhd := h.hd
            obtain ⟨ln, kn⟩ := s
            cases ln with
            | nil => cases hhd
            | cons e0 t =>
              have : e0 = e := by simpa using hhd
              subst this
              rcases List.mem_cons.1 he' with h0 | h0
              · exact absurd h0 hee
              · exact (List.pairwise_cons.1 h.srt).1 e' h0
          rw [num_snoc, num_snoc] at hnum
          omega) w hw.1 hw.2.1 hn
    have hz : (pr f g q r).2 ≠ 0 := by
      rcases hr with hr | ⟨e', he', rfl⟩
      · exact (h.prn r hr).1
      · have := hnz e' he'
        rw [← (h.el e' he').1]; exact this
    rw [hp] at hz
    exact absurd hw.2.2 hz
  · exact hn
theorem rin_step {pro : List (List Int)} {e : El} {a : Nat} {l0 : List El} {lo : List (List Int)} {kn : List (Nat × Nat)} (hf0 : ∀ a, f 0 a = 0) (h : LJ f g q pro e a (l0 ++ lo.map (elW f g q), kn)) (ha : a < 3) (hnz : NZ (l0 ++ lo.map (elW f g q))) :
    (∃ s', rin f g e (lo, kn) ((a + 1 : Nat) : Int) = .inl s' ∧ inn f g e (l0 ++ lo.map (elW f g q), kn) ((a + 1 : Nat) : Int) = (l0 ++ s'.1.map (elW f g q), s'.2) ∧ NZ (l0 ++ s'.1.map (elW f g q))) ∨
    ∃ v, rin f g e (lo, kn) ((a + 1 : Nat) : Int) = .inr v ∧ First f g q v := by
  have he : e ∈ l0 ++ lo.map (elW f g q) := List.mem_of_mem_head? (by have := h.hd; simp only at this; rw [this]; rfl)
  obtain ⟨ep, ex, el⟩ := h.el e he
  have hps : pr f g q (e.2.2 ++ [((a + 1 : Nat) : Int)]) = (f e.1 ((a + 1 : Nat) : Int), g e.2.1 ((a + 1 : Nat) : Int)) := by
    rw [pr_snoc, ← ep]
  unfold rin inn
  cases h1 : decide (f e.1 ((a + 1 : Nat) : Int) = 0) with
  | true => exact .inl ⟨(lo, kn), rfl, rfl, hnz⟩
  | false =>
    cases h2 : kn.contains (f e.1 ((a + 1 : Nat) : Int), g e.2.1 ((a + 1 : Nat) : Int)) with
    | true => exact .inl ⟨(lo, kn), by simp only [h2]; rfl, by simp only [h2]; rfl, hnz⟩
    | false =>
      simp only [h2, Bool.or_self, cond_false, Bool.not_false, Bool.and_self, cond_true]
      cases h3 : decide (g e.2.1 ((a + 1 : Nat) : Int) = 0) with
      | true => exact .inr ⟨_, rfl, first_of hf0 h ha hnz (of_decide_eq_false h1) (of_decide_eq_true h3)⟩
      | false =>
        have hel : elW f g q (e.2.2 ++ [((a + 1 : Nat) : Int)]) = (f e.1 ((a + 1 : Nat) : Int), g e.2.1 ((a + 1 : Nat) : Int), e.2.2 ++ [((a + 1 : Nat) : Int)]) := by
          unfold elW; rw [hps]
        refine .inl ⟨(lo ++ [e.2.2 ++ [((a + 1 : Nat) : Int)]], kn ++ [(f e.1 ((a + 1 : Nat) : Int), g e.2.1 ((a + 1 : Nat) : Int))]), rfl, ?_, ?_⟩
        · simp only [List.map_append, List.map_cons, List.map_nil, hel, List.append_assoc]
        · intro x hx
          simp only [List.map_append, List.map_cons, List.map_nil, hel, ← List.append_assoc] at hx
          rcases List.mem_append.1 hx with hx | hx
          · exact hnz x hx
          · rw [List.mem_singleton] at hx; subst hx
            exact of_decide_eq_false h3
/-- The labels behind one word. -/
def three (f g : Nat → Int → Nat) (e : El) : List Int → RS → RS ⊕ List Int
  | [], s => .inl s
  | a :: l, s => (rin f g e s a).elim (three f g e l) .inr
theorem foldE_three (e : El) : ∀ (l : List Int) (s : RS), (∃ s', three f g e l s = .inl s' ∧ foldE (rinX f g e) (fun s => .inl (eLs s.1, bm s.2)) l s = .inl (eLs s'.1, bm s'.2)) ∨
    ∃ v z, three f g e l s = .inr v ∧ foldE (rinX f g e) (fun s => .inl (eLs s.1, bm s.2)) l s = .inr (eInt v, z)
  | [], s => .inl ⟨s, rfl, rfl⟩
  | a :: l, s => by
    rw [foldE_cons]
    unfold three rinX
    cases h : rin f g e s a with
    | inl s' => exact foldE_three e l s'
    | inr v => exact .inr ⟨v, bm s.2, rfl, rfl⟩
/-- What stays so: the words of this level that are left, and those of the next one. -/
structure RI (f g : Nat → Int → Nat) (q : Nat × Nat) (m m' : Nat) (pro : List (List Int)) (ws : List (List Int)) (s : RS) : Prop where
  li : LI f g q pro ((ws ++ s.1).map (elW f g q)) s.2
  nz : NZ ((ws ++ s.1).map (elW f g q))
  good : Good m m' ((ws ++ s.1).map (elW f g q), s.2) 5000
  gen : ∀ x ∈ ws ++ s.1, ∀ h ∈ (ws ++ s.1).head?, num x ≤ 4 * num h
theorem word_step {m m' : Nat} (hm : m ≤ 6) (hm' : m' ≤ 6) (hf : ∀ s lab, s < 2 ^ m → f s lab < 2 ^ m) (hg : ∀ s lab, s < 2 ^ m' → g s lab < 2 ^ m') (hf0 : ∀ a, f 0 a = 0) {pro : List (List Int)} {w : List Int} {ws lo : List (List Int)} {kn : List (Nat × Nat)}
    (h : RI f g q m m' pro (w :: ws) (lo, kn)) :
    (∃ s', three f g (elW f g q w) [1, 2, 3] (lo, kn) = .inl s' ∧ RI f g q m m' (w :: pro) ws s' ∧ (ws ++ s'.1).length + cnt s'.2 < (w :: ws ++ lo).length + cnt kn) ∨
    ∃ v, three f g (elW f g q w) [1, 2, 3] (lo, kn) = .inr v ∧ First f g q v := by
  have hl0 : ∀ l : List (List Int), (w :: ws ++ l).map (elW f g q) = (w :: ws).map (elW f g q) ++ l.map (elW f g q) := fun l => List.map_append
  have J0 : LJ f g q pro (elW f g q w) 0 ((w :: ws).map (elW f g q) ++ lo.map (elW f g q), kn) := by
    rw [← hl0]
    have hge : ∀ e' ∈ (w :: ws ++ lo).map (elW f g q), num e'.2.2 ≤ 4 * num (elW f g q w).2.2 + 0 := fun e' he' => by
      obtain ⟨x, hx, rfl⟩ := List.mem_map.1 he'
      have := h.gen x hx w rfl
      show num x ≤ 4 * num w + 0
      omega
    exact { h.li with hd := rfl, ge := hge, de := fun b b1 b2 => by omega }
  have n0 : NZ ((w :: ws).map (elW f g q) ++ lo.map (elW f g q)) := by rw [← hl0]; exact h.nz
  have hGe : Good m m' ((w :: ws).map (elW f g q) ++ lo.map (elW f g q), kn) 5000 := by rw [← hl0]; exact h.good
  have hE := hGe.el (elW f g q w) (by simp)
  have e1 : ((0 + 1 : Nat) : Int) = 1 := rfl
  have e2 : ((0 + 1 + 1 : Nat) : Int) = 2 := rfl
  have e3 : ((0 + 1 + 1 + 1 : Nat) : Int) = 3 := rfl
  rcases rin_step hf0 J0 (by decide) n0 with ⟨s1, r1, i1, n1⟩ | ⟨v, r1, hv⟩
  rotate_left
  · rw [e1] at r1
    exact .inr ⟨v, by unfold three; rw [r1]; rfl, hv⟩
  have J1 := J0.step (by decide)
  rw [i1] at J1
  obtain ⟨lo1, kn1⟩ := s1
  rcases rin_step hf0 J1 (by decide) n1 with ⟨s2, r2, i2, n2⟩ | ⟨v, r2, hv⟩
  rotate_left
  · rw [e1] at r1; rw [e2] at r2
    exact .inr ⟨v, by unfold three; rw [r1, Sum.elim_inl]; unfold three; rw [r2]; rfl, hv⟩
  have J2 := J1.step (by decide)
  rw [i2] at J2
  obtain ⟨lo2, kn2⟩ := s2
  rcases rin_step hf0 J2 (by decide) n2 with ⟨s3, r3, i3, n3⟩ | ⟨v, r3, hv⟩
  rotate_left
  · rw [e1] at r1; rw [e2] at r2; rw [e3] at r3
    exact .inr ⟨v, by unfold three; rw [r1, Sum.elim_inl]; unfold three; rw [r2, Sum.elim_inl]; unfold three; rw [r3]; rfl, hv⟩
  have J3 := J2.step (by decide)
  rw [i3] at J3
  have hfold := inn_fold hm hm' hf hg hE.1 [1, 2, 3] _ hGe hE.2
  have hs3 : [(1 : Int), 2, 3].foldl (inn f g (elW f g q w)) ((w :: ws).map (elW f g q) ++ lo.map (elW f g q), kn) = ((w :: ws).map (elW f g q) ++ s3.1.map (elW f g q), s3.2) := by
    rw [e1] at i1; rw [e2] at i2; rw [e3] at i3
    rw [List.foldl_cons, i1, List.foldl_cons, i2, List.foldl_cons, i3, List.foldl_nil]
  rw [hs3] at hfold
  obtain ⟨f1, f2, f3, f4⟩ := hfold
  refine .inl ⟨s3, ?_, ?_, ?_⟩
  · rw [e1] at r1; rw [e2] at r2; rw [e3] at r3
    unfold three; rw [r1, Sum.elim_inl]; unfold three; rw [r2, Sum.elim_inl]; unfold three; rw [r3, Sum.elim_inl]; rfl
  · have hsrt := List.pairwise_cons.1 J3.srt
    have hK : ∀ r, Kn pro ((w :: ws).map (elW f g q) ++ s3.1.map (elW f g q)) r → Kn (w :: pro) ((ws ++ s3.1).map (elW f g q)) r := fun r hr => by
      rcases hr with hr | ⟨x, hx, rfl⟩
      · exact .inl (by simp [hr])
      · rw [← hl0, List.cons_append, List.map_cons] at hx
        rcases List.mem_cons.1 hx with rfl | hx
        · exact .inl List.mem_cons_self
        · exact .inr ⟨x, hx, rfl⟩
    have hmem : ∀ x ∈ (ws ++ s3.1).map (elW f g q), x ∈ (w :: ws).map (elW f g q) ++ s3.1.map (elW f g q) := fun x hx => by
      rw [← hl0, List.cons_append, List.map_cons]; exact List.mem_cons_of_mem _ hx
    refine ⟨{
      el := fun x hx => J3.el x (hmem x hx)
      srt := by rw [List.map_append]; exact hsrt.2
      prn := fun p hp => by
        rcases List.mem_cons.1 hp with rfl | hp
        · exact ⟨n3 (elW f g q p) (by simp), fun x hx => hsrt.1 x (by rw [List.map_append] at hx; exact hx)⟩
        · exact ⟨(J3.prn p hp).1, fun x hx => (J3.prn p hp).2 x (hmem x hx)⟩
      root := hK _ J3.root
      kn1 := fun p hp => by obtain ⟨r, h1, h2⟩ := J3.kn1 p hp; exact ⟨r, hK r h1, h2⟩
      don := fun p hp b b1 b2 => by
        rcases List.mem_cons.1 hp with rfl | hp
        · exact (J3.de b b1 (by simpa using b2)).mono hK
        · exact (J3.don p hp b b1 b2).mono hK }, fun x hx => n3 x (hmem x hx), ⟨?_, fun x hx => f1.el x (hmem x hx)⟩, fun x hx y hy => ?_⟩
    · have := f1.len
      simp only [List.length_append, List.length_map, List.length_cons] at this ⊢
      omega
    · have h1 := J3.ge (elW f g q x) (hmem _ (List.mem_map.2 ⟨x, hx, rfl⟩))
      have h2 := hsrt.1 (elW f g q y) (by show _ ∈ ws.map (elW f g q) ++ s3.1.map (elW f g q); rw [← List.map_append]; exact List.mem_map.2 ⟨y, List.mem_of_mem_head? hy, rfl⟩)
      have h1' : num x ≤ 4 * num w + (0 + 1 + 1 + 1) := h1
      have h2' : num w < num y := h2
      omega
  · simp only [List.length_append, List.length_map, List.length_cons] at f3 ⊢
    omega
end
end Go.Am

/- The refinement layer: the document's search comes to the first word. -/
set_option maxRecDepth 100000
set_option linter.unusedVariables false
set_option linter.unusedSimpArgs false
namespace Go.Am
open Go
theorem gt_ls {W : List (List Int)} {i : Nat} {w : List Int} (h : W[i]? = some w) : gt Ar.std (cL 1) (eLs W) (i : Int) = some (eInt w) := gt_enc_map h
theorem R24L1_eq {m m' : Nat} {l l' : List St3} (S : Sys m l) (S' : Sys m' l') (W : List (List Int)) (hW : W.length ≤ 5000) : ∀ (k i : Nat) (s : RS) (pro : List (List Int)), i + k = W.length → RI (comesN m l) (comesN m' l') (q0 m l m' l') m m' pro (W.drop i) s →
    (∃ s' pro', iter (R24L1 Ar.std (m : Int) (eSt l) (m' : Int) (eSt l') (eLs W)) (eLs s.1, (i : Int), bm s.2) = some (.inl (eLs s'.1, bm s'.2)) ∧ RI (comesN m l) (comesN m' l') (q0 m l m' l') m m' pro' [] s' ∧ s'.1.length + cnt s'.2 + k ≤ k + s.1.length + cnt s.2) ∨
    ∃ v z, iter (R24L1 Ar.std (m : Int) (eSt l) (m' : Int) (eSt l') (eLs W)) (eLs s.1, (i : Int), bm s.2) = some (.inr (eInt v, z)) ∧ First (comesN m l) (comesN m' l') (q0 m l m' l') v
  | 0, i, s, pro, hi, h => by
    obtain rfl : i = W.length := by omega
    rw [List.drop_length] at h
    refine .inl ⟨s, pro, iter_inr ?_, h, by omega⟩
    unfold R24L1
    dsimp only
    rw [show Ar.std.zlt ((W.length : Nat) : Int) (Ar.std.len (eLs W)) = false from by rw [std_zlt, std_len, eLs_len]; exact decide_eq_false (by omega), cond_false]
  | k + 1, i, s, pro, hi, h => by
    have hlt : i < W.length := by omega
    have hd : W.drop i = W[i] :: W.drop (i + 1) := List.drop_eq_getElem_cons hlt
    rw [hd] at h
    obtain ⟨lo, kn⟩ := s
    have hz : Ar.std.zlt (i : Int) (Ar.std.len (eLs W)) = true := by rw [std_zlt, std_len, eLs_len]; exact decide_eq_true (by omega)
    have hg : gt Ar.std (cL 1) (eLs W) (i : Int) = some (eInt W[i]) := gt_ls (List.getElem?_eq_getElem hlt)
    have hle := h.good.el (elW (comesN m l) (comesN m' l') (q0 m l m' l') W[i]) (List.mem_map.2 ⟨W[i], by rw [List.cons_append]; exact List.mem_cons_self, rfl⟩)
    have hlen := h.good.len
    simp only [List.length_map, List.length_append, List.length_cons] at hlen
    have hw5 : W[i].length ≤ 5000 := by
      have : W[i].length + cnt kn ≤ 5000 := hle.2
      omega
    have hinc : Ar.std.wrp .i64 (Ar.std.zadd (i : Int) 1) = ((i + 1 : Nat) : Int) := inc (by omega : i < 5000) (by decide)
    have hL := R24L0_eq S S' (elW (comesN m l) (comesN m' l') (q0 m l m' l') W[i]) ⟨rfl, rfl⟩ hw5 (lo, kn) (by show lo.length ≤ 5000; omega)
    have hstep : R24L1 Ar.std (m : Int) (eSt l) (m' : Int) (eSt l') (eLs W) (eLs lo, (i : Int), bm kn) = (some (foldE (rinX (comesN m l) (comesN m' l') (elW (comesN m l) (comesN m' l') (q0 m l m' l') W[i])) (fun s => .inl (eLs s.1, bm s.2)) [1, 2, 3] (lo, kn))).bind (Sum.elim (fun (a, b) => some (.inl (a, ((i + 1 : Nat) : Int), b))) (fun (a, b) => some (.inr (.inr (a, b))))) := by
      unfold R24L1
      dsimp only
      rw [hz, cond_true, hg, bsome]
      have hL' : iter (R24L0 Ar.std (m : Int) (eSt l) (m' : Int) (eSt l') (eInt W[i])) (eLs lo, 1, bm kn) = some (foldE (rinX (comesN m l) (comesN m' l') (elW (comesN m l) (comesN m' l') (q0 m l m' l') W[i])) (fun s => .inl (eLs s.1, bm s.2)) [1, 2, 3] (lo, kn)) := hL
      rw [hL', hinc]
    rcases word_step S.le S'.le (fun s lab h => comesN_ltB S.sb h lab) (fun s lab h => comesN_ltB S'.sb h lab) (fun a => comesN_zero _ l a) h with ⟨s', h1, h2, h3⟩ | ⟨v, h1, h2⟩
    · rcases foldE_three (f := comesN m l) (g := comesN m' l') (elW (comesN m l) (comesN m' l') (q0 m l m' l') W[i]) [1, 2, 3] (lo, kn) with ⟨s2, e1, e2⟩ | ⟨v, z, e1, e2⟩
      · rw [h1] at e1
        have : s' = s2 := Sum.inl.inj e1
        subst this
        rw [e2, bsome] at hstep
        rw [iter_inl hstep]
        simp only [List.length_append, List.length_cons, List.length_drop] at h3
        rcases R24L1_eq S S' W hW k (i + 1) s' _ (by omega) h2 with ⟨s3, p3, i1, i2, i3⟩ | hh
        · exact .inl ⟨s3, p3, i1, i2, by simp only; omega⟩
        · exact .inr hh
      · rw [h1] at e1; cases e1
    · rcases foldE_three (f := comesN m l) (g := comesN m' l') (elW (comesN m l) (comesN m' l') (q0 m l m' l') W[i]) [1, 2, 3] (lo, kn) with ⟨s2, e1, e2⟩ | ⟨v', z, e1, e2⟩
      · rw [h1] at e1; cases e1
      · rw [h1] at e1
        have : v = v' := Sum.inr.inj e1
        subst this
        rw [e2, bsome] at hstep
        exact .inr ⟨v, z, iter_inr hstep, h2⟩
theorem RI.turn {f g : Nat → Int → Nat} {q : Nat × Nat} {m m' : Nat} {pro : List (List Int)} {s : RS} (h : RI f g q m m' pro [] s) : RI f g q m m' pro s.1 ([], s.2) := by
  have e : ([] : List (List Int)) ++ s.1 = s.1 ++ [] := by simp
  obtain ⟨h1, h2, h3, h4⟩ := h
  rw [e] at h1 h2 h3 h4
  exact ⟨h1, h2, h3, h4⟩
theorem R24L2_eq {m m' : Nat} {l l' : List St3} (S : Sys m l) (S' : Sys m' l') : ∀ (k : Nat) (W : List (List Int)) (kn : List (Nat × Nat)) (pro : List (List Int)), W.length + cnt kn < k → RI (comesN m l) (comesN m' l') (q0 m l m' l') m m' pro W ([], kn) →
    ((∃ z, iter (R24L2 Ar.std (m : Int) (eSt l) (m' : Int) (eSt l')) (eLs W, bm kn) = some (.inl z)) ∧ ∀ w, ¬ Sep (comesN m l) (comesN m' l') (q0 m l m' l') w) ∨
    ∃ v z, iter (R24L2 Ar.std (m : Int) (eSt l) (m' : Int) (eSt l')) (eLs W, bm kn) = some (.inr (eInt v, z)) ∧ First (comesN m l) (comesN m' l') (q0 m l m' l') v
  | 0, W, kn, pro, hk, h => by omega
  | k + 1, W, kn, pro, hk, h => by
    rcases Nat.eq_zero_or_pos W.length with hW0 | hW0
    · have hWn : W = [] := List.eq_nil_of_length_eq_zero hW0
      subst hWn
      refine .inl ⟨⟨bm kn, iter_inr ?_⟩, fun w hw => ?_⟩
      · unfold R24L2
        dsimp only
        rw [show Ar.std.zlt 0 (Ar.std.len (eLs [])) = false from rfl, cond_false]
      · have := h.li.sepless (fun a => comesN_zero _ l a) (num w + 1) (fun e he => by cases he) w hw
        omega
    · have hz : Ar.std.zlt 0 (Ar.std.len (eLs W)) = true := by rw [std_zlt, std_len, eLs_len]; exact decide_eq_true (by omega)
      have hlen := h.good.len
      simp only [List.length_map, List.length_append, List.length_nil] at hlen
      have hL := R24L1_eq S S' W (by omega) W.length 0 ([], kn) pro (by omega) h
      have hstep : R24L2 Ar.std (m : Int) (eSt l) (m' : Int) (eSt l') (eLs W, bm kn) = (iter (R24L1 Ar.std (m : Int) (eSt l) (m' : Int) (eSt l') (eLs W)) (eLs [], ((0 : Nat) : Int), bm kn)).bind (Sum.elim (fun (a, b) => some (.inl (a, b))) (fun (a, b) => some (.inr (.inr (a, b))))) := by
        unfold R24L2
        dsimp only
        rw [hz, cond_true]; rfl
      rcases hL with ⟨s', pro', i1, i2, i3⟩ | ⟨v, z, i1, i2⟩
      · simp only at i1
        rw [i1, bsome] at hstep
        rw [iter_inl hstep]
        simp only [List.length_nil] at i3
        exact R24L2_eq S S' k s'.1 s'.2 pro' (by omega) i2.turn
      · simp only at i1
        rw [i1, bsome] at hstep
        exact .inr ⟨v, z, iter_inr hstep, i2⟩
theorem rep_bm : Ar.std.rep (Int.ofNat 4096) (.bool false) = bm [] := by
  have key : ∀ n : Nat, List.replicate n (D.bool false) = (List.range n).map fun k => D.bool (([] : List (Nat × Nat)).contains (k / 64, k % 64)) := fun n => by
    simp [List.map_const']
  exact key 4096
theorem R24_eq (n n' : Int) (l l' : List St3) (hl : l.length < Lg) (hl' : l'.length < Lg) : R24 Ar.std n (eSt l) n' (eSt l') = some (eInt (shw n l n' l').1, (shw n l n' l').2) := by
  unfold R24 shw
  rw [R34_eq n l hl, bsome]
  cases hv : vSys n l with
  | false => rfl
  | true =>
    rw [cond_true, cond_true, R34_eq n' l' hl', bsome]
    cases hv' : vSys n' l' with
    | false => rfl
    | true =>
      obtain ⟨m, rfl, S⟩ := Sys.of hv
      obtain ⟨m', rfl, S'⟩ := Sys.of hv'
      rw [Bool.not_true, bsome, cond_false, cond_true, rep_bm]
      have hb1 := behindN_ltB S []
      have hb2 := behindN_ltB S' []
      have hc := cnt_le []
      have hI : RI (comesN m l) (comesN m' l') (q0 m l m' l') m m' [] [[]] ([], []) := by
        refine ⟨{ el := fun e he => ?_, srt := List.pairwise_singleton _ _, prn := fun p hp => (by cases hp), root := .inr ⟨_, List.mem_singleton.2 rfl, rfl⟩, kn1 := fun p hp => (by cases hp), don := fun p hp => (by cases hp) }, fun e he => ?_, ⟨?_, fun e he => ?_⟩, fun x hx y hy => ?_⟩
        · rw [List.append_nil, List.map_singleton, List.mem_singleton] at he
          subst he
          exact ⟨rfl, quiet_pos m l, fun a ha => by cases ha⟩
        · rw [List.append_nil, List.map_singleton, List.mem_singleton] at he
          subst he
          exact quiet_pos m' l'
        · show 1 + cnt [] ≤ 5000
          omega
        · rw [List.append_nil, List.map_singleton, List.mem_singleton] at he
          subst he
          refine ⟨⟨hb1, hb2⟩, ?_⟩
          show 0 + cnt [] ≤ 5000
          omega
        · rw [List.append_nil, List.mem_singleton] at hx
          subst hx; exact Nat.zero_le _
      have hq := shw_min S S'
      rcases R24L2_eq S S' 9000 [[]] [] [] (by show 1 + cnt [] < 9000; omega) hI with ⟨⟨z, h1⟩, h2⟩ | ⟨v, z, h1, h2⟩
      · have h1' : iter (R24L2 Ar.std (m : Int) (eSt l) (m' : Int) (eSt l')) ([.list 1 []], bm []) = some (.inl z) := h1
        rw [h1', bsome]
        generalize look (comesN m l) (comesN m' l') 9000 [(quietN m l 1, quietN m' l' 1, [])] [(quietN m l 1, quietN m' l' 1)] = o at hq ⊢
        cases o with
        | none => rfl
        | some t => exact absurd hq.1 (h2 t)
      · have h1' : iter (R24L2 Ar.std (m : Int) (eSt l) (m' : Int) (eSt l')) ([.list 1 []], bm []) = some (.inr (eInt v, z)) := h1
        rw [h1', bsome]
        generalize look (comesN m l) (comesN m' l') 9000 [(quietN m l 1, quietN m' l' 1, [])] [(quietN m l 1, quietN m' l' 1)] = o at hq ⊢
        cases o with
        | none => exact absurd h2.1 (hq v)
        | some t =>
          have a1 := hq.2 v h2.1
          have a2 := h2.2 t hq.1
          have : v = t := num_inj h2.1.1 hq.1.1 (by omega)
          subst this; rfl
end Go.Am

/- The refinement layer: the law of RefineShows. -/
set_option maxRecDepth 100000
set_option linter.unusedVariables false
set_option linter.unusedSimpArgs false
namespace Go.Am
open Go
theorem shw_len (n n' : Int) (l l' : List St3) : (shw n l n' l').1.length ≤ 5000 := by
  unfold shw
  cases hv : vSys n l with
  | false => exact Nat.zero_le _
  | true =>
    cases hv' : vSys n' l' with
    | false => exact Nat.zero_le _
    | true =>
      obtain ⟨m, rfl, S⟩ := Sys.of hv
      obtain ⟨m', rfl, S'⟩ := Sys.of hv'
      have b1 := behindN_ltB S []
      have b2 := behindN_ltB S' []
      have hc := cnt_le [(quietN (m : Int) l 1, quietN (m' : Int) l' 1)]
      have hG : Good m m' ([(quietN m l 1, quietN m' l' 1, [])], [(quietN m l 1, quietN m' l' 1)]) 5000 := ⟨by simp only [List.length_cons, List.length_nil]; omega, fun e he => by
        rw [List.mem_singleton] at he; subst he; exact ⟨⟨b1, b2⟩, by simp only [List.length_nil]; omega⟩⟩
      rcases look_eq S S' 9000 _ _ hG (by simp only [List.length_cons, List.length_nil]; omega) with ⟨h3, _⟩ | ⟨t, z, h3, h5, _⟩
      · rw [h3]; exact Nat.zero_le _
      · rw [h3]; exact h5
theorem shw_Lg (n n' : Int) (l l' : List St3) : (shw n l n' l').1.length < Lg := by
  have := shw_len n n' l l'
  show _ < 9223372036854775808
  omega
theorem R4_ok (n n' : Int) (l l' : List St3) (hl : l.length < Lg) (hl' : l'.length < Lg) : R4 Ar.std n (eSt l) n' (eSt l') = some true := by
  have s1 := R27_same _ (shw_Lg n n' l l')
  have s2 := R30_same (seenS n l).1 _ (seenS_len n l)
  have p1 : (bif vSys n l then (plainF (tF n.toNat l), (0 : Int)) else (false, 50)) = (bif vSys n l then (plainD l, 0) else (false, 50)) := by
    cases hv : vSys n l with
    | false => rfl
    | true => rw [cond_true, cond_true, plain_same hv]
  have h25 := R25_eq n l hl
  rw [p1] at h25
  have h26 := R26_eq n l hl
  generalize (bif vSys n l then (plainD l, (0 : Int)) else (false, 50)) = q at h25 h26
  obtain ⟨a, b⟩ := q
  unfold R4
  rw [R16_eq, bsome, R16_eq, bsome]
  have hmain : (bif decide ((100 : Int) < l.length) then some true else some (decide ((100 : Int) < l'.length))) = some (decide ((100 : Int) < l.length) || decide ((100 : Int) < l'.length)) := by
    cases decide ((100 : Int) < l.length) <;> rfl
  rw [hmain, bsome]
  cases (decide ((100 : Int) < l.length) || decide ((100 : Int) < l'.length)) with
  | true => rw [cond_true, R17_eq]; rfl
  | false =>
    rw [cond_false, R23_eq n n' l l' hl hl', bsome]
    dsimp only
    rw [R24_eq n n' l l' hl hl', bsome]
    dsimp only
    rw [h25, bsome]
    dsimp only
    rw [h26, bsome]
    dsimp only
    rw [s1, bsome, cond_true, zeqS, cond_true, beqS, cond_true, zeqS, Bool.not_true, bsome, cond_false, R28_eq n l hl, bsome]
    dsimp only
    rw [R29_eq n l hl, bsome]
    dsimp only
    rw [s2, bsome, cond_true, zeqS, cond_true, R17_eq]; rfl
end Go.Am
