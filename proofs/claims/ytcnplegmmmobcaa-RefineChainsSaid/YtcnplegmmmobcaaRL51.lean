/- Own text: RL51. -/
import Derived.Test.YtcnplegmmmobcaaRL36
set_option maxRecDepth 100000
set_option linter.unusedVariables false
set_option linter.unusedSimpArgs false
set_option linter.unusedSectionVars false
namespace Go.Am
open Go
theorem prevW {i : Nat} (h : 0 < i) (h2 : i < Lg) : Ar.std.wrp .i64 (Ar.std.zsub (i : Int) 1) = ((i - 1 : Nat) : Int) := by
  have h2' : i < 9223372036854775808 := h2
  rw [std_wrp, std_zsub, wrapS (by omega) (by omega)]; omega
theorem btw_lo {a : Int} {m : Nat} (h : btw 0 a ((m : Int) - 1) = true) : 0 ≤ a ∧ a.toNat < m := by
  simp only [btw, Bool.and_eq_true, decide_eq_true_eq] at h; omega
theorem badR_ok {m n : Nat} {r : List P2} {i : Nat} {p : P2} (h : r[i]? = some p) (hb : badR m n r i = false) : (0 ≤ p.1 ∧ p.1.toNat < m) ∧ (0 ≤ p.2 ∧ p.2.toNat < n) := by
  rw [badR_get h] at hb
  simp only [Bool.or_eq_false_iff, Bool.not_eq_false', Bool.and_eq_true] at hb
  exact ⟨btw_lo hb.1.1, btw_lo hb.1.2⟩
theorem isRel_ok {m n : Nat} {r : List P2} (h : isRel m n r = true) : ∀ p ∈ r, (0 ≤ p.1 ∧ p.1.toNat < m) ∧ (0 ≤ p.2 ∧ p.2.toNat < n) := by
  intro p hp
  obtain ⟨i, hi, rfl⟩ := List.getElem_of_mem hp
  refine badR_ok (List.getElem?_eq_getElem hi) ?_
  unfold isRel at h
  rw [Bool.not_eq_true'] at h
  rw [Bool.eq_false_iff]
  intro hb
  rw [Bool.eq_false_iff] at h
  exact h (List.any_eq_true.2 ⟨i, List.mem_range.2 hi, hb⟩)
theorem R85_eq {m n : Nat} (hm : 1 ≤ m ∧ m ≤ 6) (hn : 1 ≤ n ∧ n ≤ 6) (r : List P2) (hr : r.length < Lg) : ∃ f, R85 Ar.std (ePr r) (m : Int) (n : Int) = some (rU f, isRel m n r) ∧ (isRel m n r = true → f = relF r) := by
  have w1 : Ar.std.wrp .i64 (Ar.std.zsub (m : Int) 1) = (m : Int) - 1 := by rw [std_wrp, std_zsub, wrapS (by omega) (by omega)]
  have w2 : Ar.std.wrp .i64 (Ar.std.zsub (n : Int) 1) = (n : Int) - 1 := by rw [std_wrp, std_zsub, wrapS (by omega) (by omega)]
  have hB : ∀ i, i < r.length → (∀ j, j < i → badR m n r j = false) → ∀ p ∈ r.take i, (0 ≤ p.1 ∧ p.1.toNat < m) ∧ (0 ≤ p.2 ∧ p.2.toNat < n) := fun i hi hj p hp => by
    obtain ⟨j, hjl, rfl⟩ := List.getElem_of_mem hp
    rw [List.length_take] at hjl
    rw [List.getElem_take]
    exact badR_ok (List.getElem?_eq_getElem (by omega)) (hj j (by omega))
  have key := iter_stopP (step := R85L0 Ar.std (ePr r) (m : Int) (n : Int)) r.length (fun i => ((i : Int), rU (relF (r.take i)))) (badR m n r) (rU (relF r)) (fun z => ∃ f, z = (rU f, rU f, rU f)) (fun i hi hj => by
    have hp := List.getElem?_eq_getElem hi
    have hlo := hB i hi hj
    have h64 := relF_lt (r := r.take i) fun p hp => by have := (hlo p hp).2.2; omega
    generalize r[i] = p at hp
    have hget : gt Ar.std cP (ePr r) (i : Int) = some p := gt_enc hp
    have hi' : i < 9223372036854775808 := Nat.lt_trans hi hr
    have hbad : ((R65 Ar.std 0 p.1 ((m : Int) - 1)).bind fun r57 => bif r57 then (R65 Ar.std 0 p.2 ((n : Int) - 1)).bind fun r60 => bif r60 then bif (Ar.std.zlt 0 (i : Int)) then
        (gt Ar.std cP (ePr r) (Ar.std.wrp .i64 (Ar.std.zsub (i : Int) 1))).bind fun x => (R108 Ar.std x.1 x.2 p.1 p.2).bind fun r69 => some (Ar.std.zle 0 r69) else some false else some true else some true) = some (badR m n r i) := by
      rw [badR_get hp, R65_eq, bsome, R65_eq, bsome, std_zlt]
      cases btw 0 p.1 ((m : Int) - 1) with
      | false => rfl
      | true =>
        cases btw 0 p.2 ((n : Int) - 1) with
        | false => rfl
        | true =>
          rw [cond_true, cond_true]
          rcases Nat.eq_zero_or_pos i with h0 | h0
          · subst h0; rfl
          · rw [decide_eq_true (by omega : (0 : Int) < (i : Int)), cond_true, prevW h0 (by omega : i < 9223372036854775808)]
            have hq := List.getElem?_eq_getElem (l := r) (i := i - 1) (by omega)
            generalize r[i - 1] = q at hq
            have hget' : gt Ar.std cP (ePr r) ((i - 1 : Nat) : Int) = some q := gt_enc hq
            obtain ⟨s, e1, e2⟩ := R108_some q p
            rw [hget', bsome, e1, bsome, e2, hq, Option.map_some, Option.getD_some, decide_eq_true h0]; rfl
    have hbad' : ((R65 Ar.std 0 p.1 ((m : Int) - 1)).bind fun r57 => bif r57 then (R65 Ar.std 0 p.2 ((n : Int) - 1)).bind fun r60 => bif r60 then bif (Ar.std.zlt 0 (i : Int)) then
        (gt Ar.std cP (ePr r) (Ar.std.wrp .i64 (Ar.std.zsub (i : Int) 1))).bind fun (a63, a64) => (R108 Ar.std a63 a64 p.1 p.2).bind fun r69 => some (Ar.std.zle 0 r69) else some false else some true else some true) = some (badR m n r i) := hbad
    have hstep : R85L0 Ar.std (ePr r) (m : Int) (n : Int) ((i : Int), rU (relF (r.take i))) = bif badR m n r i then some (.inr (.inr (rU (relF (r.take i)), rU (relF (r.take i)), rU (relF (r.take i))))) else
        (ck (Ar.std.zle 0 p.1)).bind fun _ => (ck (Ar.std.zlt p.1 (Int.ofNat 6))).bind fun _ => (gc Ar.std (cI .u8) (rU (relF (r.take i))) (Ar.std.nat (Ar.std.zadd 0 (Ar.std.zmul p.1 (Int.ofNat 1))))).bind fun a90 =>
        (nk (Ar.std.zlt p.2 0)).bind fun _ => (ck (Ar.std.zle 0 p.1)).bind fun _ => (ck (Ar.std.zlt p.1 (Int.ofNat 6))).bind fun _ => (Ar.std.lget (rU (relF (r.take i))) (Ar.std.nat (Ar.std.zadd 0 (Ar.std.zmul p.1 (Int.ofNat 1))))).bind fun d99 =>
        some (.inl ((Ar.std.wrp .i64 (Ar.std.zadd (i : Int) 1)), (Ar.std.lset (rU (relF (r.take i))) (Ar.std.nat (Ar.std.zadd 0 (Ar.std.zmul p.1 (Int.ofNat 1)))) (.int .u8 (Ar.std.bits .or .u8 a90 (Ar.std.shl .u8 1 p.2)))))) := by
      unfold R85L0
      dsimp only
      rw [ltS hi, cond_true, hget, bsome]
      rw [w1, w2, hbad', bsome, rU_ga, bsome, rU_len, bsome, rU_room, bsome, rU_spl, rU_len, bsome, rU_ones, bsome]
    refine ⟨fun hb => ?_, fun hb => ⟨_, ⟨_, rfl⟩, by rw [hstep, hb, cond_true]⟩⟩
    have hok := badR_ok hp hb
    rw [hb, cond_false] at hstep
    obtain ⟨a, ha⟩ : ∃ a : Nat, p.1 = (a : Int) := ⟨p.1.toNat, by omega⟩
    obtain ⟨b, hb'⟩ : ∃ b : Nat, p.2 = (b : Int) := ⟨p.2.toNat, by omega⟩
    have ha6 : a < 6 := by omega
    have hb6 : b < 6 := by omega
    rw [hstep, ha, hb', ckN, bsome, ckL ha6, bsome, ix1, rU_gc _ ha6, bsome, nkN, bsome, bsome, bsome, rU_lget _ ha6, bsome, shlS (by omega), orS (h64 a) (pow6 hb6), rU_lset, inc hi hr, take_succ_get hp, relF_snoc]
    unfold putP
    rw [ha, hb']; rfl) (fun _ => by
    unfold R85L0
    dsimp only
    rw [geS, cond_false, List.take_length])
  have e0 : (((0 : Nat) : Int)) = 0 := rfl
  rw [e0, List.take_zero] at key
  have e1 : rU (relF []) = rU fun _ => 0 := rfl
  rw [e1] at key
  unfold R85 isRel
  rw [rU_rep]
  rcases key with ⟨h1, _, h3⟩ | ⟨h1, z, ⟨f, rfl⟩, h3⟩
  · refine ⟨relF r, ?_, fun _ => rfl⟩
    rw [h3, bsome, h1, Sum.elim_inl, rU_ga, bsome, rU_len, bsome, ← rU_rep, rU_room, bsome, rU_spl, rU_len, bsome, rU_ones, bsome]; rfl
  · refine ⟨f, ?_, fun h => ?_⟩
    · rw [h3, bsome, h1]; rfl
    · rw [h1] at h; cases h
end Go.Am

set_option maxRecDepth 100000
set_option linter.unusedVariables false
set_option linter.unusedSimpArgs false
set_option linter.unusedSectionVars false
namespace Go.Am
open Go
def prs (n : Nat) (f : Nat → Nat) : List P2 := (List.range n).flatMap fun x => (bl (f x)).map fun y : Nat => ((x : Int), (y : Int))
theorem prs_len (n : Nat) (f : Nat → Nat) : (prs n f).length ≤ n * 6 := by
  have := flat_le (fun x => (bl (f x)).map fun y : Nat => ((x : Int), (y : Int))) 6 (List.range n) (fun x _ => by rw [List.length_map]; exact bl_len _)
  rw [List.length_range] at this
  exact this
theorem prs_succ (n : Nat) (f : Nat → Nat) : prs (n + 1) f = prs n f ++ (bl (f n)).map fun y : Nat => ((n : Int), (y : Int)) := by
  unfold prs; rw [List.range_succ, List.flatMap_append, List.flatMap_singleton]
theorem prs_zero {n : Nat} {f : Nat → Nat} (h : ∀ i, n ≤ i → f i = 0) : ∀ k, prs (n + k) f = prs n f
  | 0 => rfl
  | k + 1 => by
    rw [← Nat.add_assoc, prs_succ, prs_zero h k, h _ (by omega), bl_zero]; simp
theorem ap_pr {ls : List P2} (x : P2) (h : ls.length < 4294967295) : ap Ar.std (ePr ls) [.agg [.int .i64 x.1, .int .i64 x.2]] = some (ePr (ls ++ [x])) := ap_enc1 rfl h
theorem R86L0_eq (x : Nat) (s : Nat) (out : List P2) (ho : out.length ≤ 1000) : iter (R86L0 Ar.std (x : Int) (eInt (cNs (bl s)))) (ePr out, 0) = some (ePr (out ++ (bl s).map fun y : Nat => ((x : Int), (y : Int)))) := by
  have hb := bl_len s
  have key := iter_pre (step := R86L0 Ar.std (x : Int) (eInt (cNs (bl s)))) (bl s) (fun pre => out ++ pre.map fun y : Nat => ((x : Int), (y : Int))) (fun S i => (ePr S, (i : Int))) ePr (fun i a ha hi => by
    have hlt : Ar.std.zlt (i : Int) (Ar.std.len (eInt (cNs (bl s)))) = true := by rw [eIc_len]; exact ltN hi
    have hg : gt Ar.std (cI .i64) (eInt (cNs (bl s))) (i : Int) = some (a : Int) := gt_enc (cNs_get ha)
    have hap := ap_pr (ls := out ++ ((bl s).take i).map fun y : Nat => ((x : Int), (y : Int))) ((x : Int), (a : Int)) (by rw [List.length_append, List.length_map, List.length_take]; omega)
    unfold R86L0
    dsimp only
    rw [hlt, cond_true, hg, bsome, hap, bsome, inc (by omega : i < 100) (by decide), List.map_append, List.append_assoc]; rfl) (by
    unfold R86L0
    dsimp only
    rw [show Ar.std.zlt ((bl s).length : Int) (Ar.std.len (eInt (cNs (bl s)))) = false from by rw [eIc_len]; exact geN _, cond_false])
  rw [List.map_nil, List.append_nil] at key
  exact key
theorem R86_eq {f : Nat → Nat} (h : ∀ i, f i < 64) : R86 Ar.std (rU f) = some (ePr (prs 6 f)) := by
  have key := iter_to (step := R86L1 Ar.std (rU f)) 6 (fun i => (ePr (prs i f), (i : Int))) (ePr (prs 6 f)) (fun i hi => by
    have hp := prs_len i f
    unfold R86L1
    dsimp only
    rw [show Ar.std.zlt (i : Int) 6 = true from by rw [std_zlt]; exact decide_eq_true (by omega), cond_true, ckN, bsome, ckL hi, bsome, show Ar.std.nat (i : Int) = i from by rw [std_nat, Int.toNat_natCast], rU_gc _ hi, bsome, R76_eq _ (h i), bsome, R86L0_eq i (f i) _ (by omega), bsome, inc (by omega : i < 100) (by decide), prs_succ]) (by
    unfold R86L1
    dsimp only
    rw [show Ar.std.zlt ((6 : Nat) : Int) 6 = false from rfl, cond_false])
  unfold R86
  rw [rU_len, bsome, rU_ga, bsome]
  have e : iter (R86L1 Ar.std (rU f)) ([], 0) = some (ePr (prs 6 f)) := key
  rw [e]; rfl
theorem fold_testP {α : Type} {st : (Nat → Nat) → α → Nat → Nat} {c : α → Nat → Nat → Bool} (h : ∀ f a x y, (st f a x).testBit y = ((f x).testBit y || c a x y)) : ∀ (l : List α) (f : Nat → Nat) (x y : Nat), (l.foldl st f x).testBit y = ((f x).testBit y || l.any fun a => c a x y)
  | [], f, x, y => by simp
  | a :: l, f, x, y => by
    rw [List.foldl_cons, fold_testP h l, h, List.any_cons, Bool.or_assoc]
theorem putP_test (f : Nat → Nat) (p : P2) (x y : Nat) : (putP f p x).testBit y = ((f x).testBit y || (decide (p.1.toNat = x) && decide (p.2.toNat = y))) := by
  unfold putP upd
  by_cases h : x = p.1.toNat
  · subst h
    rw [if_pos rfl, Nat.testBit_or, Nat.testBit_two_pow, decide_eq_true rfl, Bool.true_and]
  · rw [if_neg h, decide_eq_false (fun e => h e.symm)]; simp
theorem relF_test (r : List P2) (x y : Nat) : (relF r x).testBit y = r.any fun p => decide (p.1.toNat = x) && decide (p.2.toNat = y) := by
  unfold relF
  rw [fold_testP putP_test r]; simp
def compF (f g : Nat → Nat) (x : Nat) : Nat := orAll g (bl (f x))
theorem orAll_test (g : Nat → Nat) (l : List Nat) (z : Nat) : (orAll g l).testBit z = l.any fun y => (g y).testBit z := by
  induction l with
  | nil => simp [orAll]
  | cons a l ih => rw [orAll_cons, Nat.testBit_or, ih, List.any_cons]
theorem compF_test (f g : Nat → Nat) (x z : Nat) : (compF f g x).testBit z = (List.range 6).any fun y => (f x).testBit y && (g y).testBit z := by
  unfold compF
  rw [orAll_test, bl, List.any_filter]
theorem compF_lt {f g : Nat → Nat} (hg : ∀ i, g i < 64) (x : Nat) : compF f g x < 64 := orAll_lt (n := 6) fun i _ => hg i
end Go.Am

set_option maxRecDepth 100000
set_option linter.unusedVariables false
set_option linter.unusedSimpArgs false
set_option linter.unusedSectionVars false
namespace Go.Am
open Go
theorem updf2 (f : Nat → Nat) (k a b : Nat) : upd (upd f k a) k b = upd f k b := by
  funext j; unfold upd; split <;> rfl
theorem R39L0_eq {f g : Nat → Nat} (hf : ∀ i, f i < 64) (hg : ∀ i, g i < 64) {x : Nat} (hx : x < 6) (s : Nat) : iter (R39L0 Ar.std (rU g) (x : Int) (eInt (cNs (bl s)))) (0, rU f) = some (rU (upd f x (f x ||| orAll g (bl s)))) := by
  have hb := bl_len s
  have key := iter_pre (step := R39L0 Ar.std (rU g) (x : Int) (eInt (cNs (bl s)))) (bl s) (fun pre => upd f x (f x ||| orAll g pre)) (fun S i => ((i : Int), rU S)) rU (fun i a ha hi => by
    have hlt : Ar.std.zlt (i : Int) (Ar.std.len (eInt (cNs (bl s)))) = true := by rw [eIc_len]; exact ltN hi
    have hgt : gt Ar.std (cI .i64) (eInt (cNs (bl s))) (i : Int) = some (a : Int) := gt_enc (cNs_get ha)
    have ha6 : a < 6 := (mem_bl.1 (List.mem_of_getElem? ha)).1
    have hu : upd f x (f x ||| orAll g ((bl s).take i)) x < 64 := by
      unfold upd; rw [if_pos rfl]; exact or_lt (n := 6) (hf x) (orAll_lt (n := 6) fun i _ => hg i)
    unfold R39L0
    dsimp only
    rw [hlt, cond_true, hgt, bsome, ckN, bsome, ckL hx, bsome, ix1, rU_gc _ hx, bsome, ckN, bsome, ckL ha6, bsome, ix1, rU_spl, rU_gc _ ha6, bsome, bsome, bsome, rU_lget _ hx, bsome, orS hu (hg a), rU_lset, inc (by omega : i < 100) (by decide), updf2]
    have e : upd f x (f x ||| orAll g ((bl s).take i)) x ||| g a = f x ||| orAll g ((bl s).take i ++ [a]) := by
      unfold upd; rw [if_pos rfl]
      unfold orAll
      rw [List.foldl_append, List.foldl_cons, List.foldl_nil, Nat.or_assoc]
    rw [e]) (by
    unfold R39L0
    dsimp only
    rw [show Ar.std.zlt ((bl s).length : Int) (Ar.std.len (eInt (cNs (bl s)))) = false from by rw [eIc_len]; exact geN _, cond_false])
  have e0 : upd f x (f x ||| orAll g []) = f := by
    funext j; unfold upd
    by_cases h : j = x
    · rw [if_pos h, h]; simp [orAll]
    · rw [if_neg h]
  rw [e0] at key
  exact key
def part (k : Nat) (f : Nat → Nat) (x : Nat) : Nat := if x < k then f x else 0
theorem part_succ (k : Nat) (f : Nat → Nat) : upd (part k f) k (part k f k ||| f k) = part (k + 1) f := by
  funext j
  unfold upd part
  by_cases h : j = k
  · subst h
    rw [if_pos rfl, if_neg (by omega), if_pos (by omega), Nat.zero_or]
  · rw [if_neg h]
    by_cases h2 : j < k
    · rw [if_pos h2, if_pos (by omega)]
    · rw [if_neg h2, if_neg (by omega)]
theorem part_lt {k : Nat} {f : Nat → Nat} (h : ∀ i, f i < 64) (i : Nat) : part k f i < 64 := by
  unfold part; split
  · exact h i
  · decide
theorem R39L1_eq {f g : Nat → Nat} (hf : ∀ i, f i < 64) (hg : ∀ i, g i < 64) : iter (R39L1 Ar.std (rU f) (rU g)) (0, rU fun _ => 0) = some (rU (compF f g)) := by
  have key := iter_to (step := R39L1 Ar.std (rU f) (rU g)) 6 (fun i => ((i : Int), rU (part i (compF f g)))) (rU (compF f g)) (fun i hi => by
    unfold R39L1
    dsimp only
    rw [show Ar.std.zlt (i : Int) 6 = true from by rw [std_zlt]; exact decide_eq_true (by omega), cond_true, ckN, bsome, ckL hi, bsome, ix1, rU_spl, rU_gc _ hi, bsome, R76_eq _ (hf i), bsome, R39L0_eq (part_lt (compF_lt hg)) hg hi, bsome, inc (by omega : i < 100) (by decide)]
    have e : part i (compF f g) i ||| orAll g (bl (f i)) = part i (compF f g) i ||| compF f g i := rfl
    rw [e, part_succ]) (by
    unfold R39L1
    dsimp only
    rw [show Ar.std.zlt ((6 : Nat) : Int) 6 = false from rfl, cond_false]
    rw [rU_congr (f := part 6 (compF f g)) (g := compF f g) fun i hi => by unfold part; rw [if_pos hi]])
  exact key
def cmpd (r s : List P2) : List P2 × Int := bif isRel 6 6 r && isRel 6 6 s then (prs 6 (compF (relF r) (relF s)), 0) else ([], 2)
theorem relF_lt6 {n : Nat} (hn : n ≤ 6) {m : Nat} {r : List P2} (h : isRel m n r = true) : ∀ i, relF r i < 64 := relF_lt fun p hp => by have := isRel_ok h p hp; omega
theorem R39_eq (r s : List P2) (hr : r.length < Lg) (hs : s.length < Lg) : R39 Ar.std (ePr r) (ePr s) = some (ePr (cmpd r s).1, (cmpd r s).2) := by
  obtain ⟨f, h1, h2⟩ := R85_eq (m := 6) (n := 6) (by decide) (by decide) r hr
  obtain ⟨g, h3, h4⟩ := R85_eq (m := 6) (n := 6) (by decide) (by decide) s hs
  have h1' : R85 Ar.std (ePr r) 6 6 = some (rU f, isRel 6 6 r) := h1
  have h3' : R85 Ar.std (ePr s) 6 6 = some (rU g, isRel 6 6 s) := h3
  unfold R39 cmpd
  rw [h1', bsome]
  dsimp only
  rw [rU_len, bsome, rU_room, bsome, h3', bsome]
  dsimp only
  rw [rU_len, bsome, bsome]
  cases hv : isRel 6 6 r with
  | false => rfl
  | true =>
    cases hv' : isRel 6 6 s with
    | false => rfl
    | true =>
      rw [h2 hv, h4 hv', rU_rep, cond_true, Bool.not_true, bsome, cond_false, R39L1_eq (relF_lt6 (by decide) hv) (relF_lt6 (by decide) hv'), bsome, rU_ga, bsome, R86_eq (compF_lt (relF_lt6 (by decide) hv')), bsome]; rfl
end Go.Am

set_option maxRecDepth 100000
set_option linter.unusedVariables false
set_option linter.unusedSimpArgs false
set_option linter.unusedSectionVars false
namespace Go.Am
open Go
def itr {α : Type} (f : α → α) : Nat → α → α
  | 0, s => s
  | k + 1, s => itr f k (f s)
theorem itr_fix {α : Type} {f : α → α} {s : α} (h : f s = s) : ∀ k, itr f k s = s
  | 0 => rfl
  | k + 1 => by rw [itr, h]; exact itr_fix h k
def clr (a y : Nat) : Nat := a &&& (63 - 2 ^ y)
theorem clr_all : ∀ (a : Fin 64) (y z : Fin 6), (clr a.val y.val).testBit z.val = (a.val.testBit z.val && !decide (z.val = y.val)) := by decide +kernel
theorem clr_lt (a y : Nat) : clr a y < 64 := Nat.lt_of_le_of_lt Nat.and_le_right (by have := Nat.sub_le 63 (2 ^ y); omega)
theorem high_false {a z : Nat} (h : a < 64) (hz : 6 ≤ z) : a.testBit z = false := Nat.testBit_lt_two_pow (Nat.lt_of_lt_of_le h (Nat.pow_le_pow_right (n := 2) (by decide) hz))
theorem clr_test {a y : Nat} (ha : a < 64) (hy : y < 6) (z : Nat) : (clr a y).testBit z = (a.testBit z && !decide (z = y)) := by
  rcases Nat.lt_or_ge z 6 with hz | hz
  · exact clr_all ⟨a, ha⟩ ⟨y, hy⟩ ⟨z, hz⟩
  · rw [high_false (clr_lt a y) hz, high_false ha hz]; rfl
theorem andNot_u8 : ∀ (a : Fin 64) (y : Fin 6), bitsStd .andNot .u8 ((a.val : Nat) : Int) ((2 ^ y.val : Nat) : Int) = ((clr a.val y.val : Nat) : Int) := by decide +kernel
theorem card_clr {a y : Nat} (ha : a < 64) (hy : y < 6) (h : a.testBit y = true) : card 6 (clr a y) < card 6 a := by
  unfold card
  refine countP_lt (fun z hz => ?_) (List.mem_range.2 hy) ?_ h
  · rw [clr_test ha hy] at hz
    simp only [Bool.and_eq_true] at hz
    exact hz.1
  · rw [clr_test ha hy]; simp
def sizeF (f : Nat → Nat) : Nat := card 6 (f 0) + card 6 (f 1) + card 6 (f 2) + card 6 (f 3) + card 6 (f 4) + card 6 (f 5)
theorem size_upd {f : Nat → Nat} {x v : Nat} (hx : x < 6) (h : card 6 v < card 6 (f x)) : sizeF (upd f x v) < sizeF f := by
  unfold sizeF upd
  match x, hx with
  | 0, _ => simp; omega
  | 1, _ => simp; omega
  | 2, _ => simp; omega
  | 3, _ => simp; omega
  | 4, _ => simp; omega
  | 5, _ => simp; omega
section
variable (K : (Nat → Nat) → Nat → Nat → Bool)
def dwc (x : Nat) (f : Nat → Nat) (y : Nat) : Nat → Nat := bif K f x y then f else upd f x (clr (f x) y)
def dwx (f : Nat → Nat) (x : Nat) : Nat → Nat := (bl (f x)).foldl (dwc K x) f
def dws (m : Nat) (f : Nat → Nat) : Nat → Nat := (List.range m).foldl (dwx K) f
def swc (x : Nat) (s : Bool × (Nat → Nat)) (y : Nat) : Bool × (Nat → Nat) := bif K s.2 x y then s else (true, upd s.2 x (clr (s.2 x) y))
def swx (s : Bool × (Nat → Nat)) (x : Nat) : Bool × (Nat → Nat) := (bl (s.2 x)).foldl (swc K x) s
def sws (m : Nat) (f : Nat → Nat) : Bool × (Nat → Nat) := (List.range m).foldl (swx K) (false, f)
variable {K}
theorem swc_snd (x : Nat) (s : Bool × (Nat → Nat)) (y : Nat) : (swc K x s y).2 = dwc K x s.2 y := by
  unfold swc dwc; cases K s.2 x y <;> rfl
theorem foldl_snd {α β γ : Type} {f : α × β → γ → α × β} {g : β → γ → β} (h : ∀ s c, (f s c).2 = g s.2 c) : ∀ (l : List γ) (s : α × β), (l.foldl f s).2 = l.foldl g s.2
  | [], _ => rfl
  | c :: l, s => by rw [List.foldl_cons, List.foldl_cons, foldl_snd h l, h]
theorem swx_snd (s : Bool × (Nat → Nat)) (x : Nat) : (swx K s x).2 = dwx K s.2 x := foldl_snd (fun s y => swc_snd x s y) _ s
theorem sws_snd (m : Nat) (f : Nat → Nat) : (sws K m f).2 = dws K m f := foldl_snd (fun s x => swx_snd s x) _ (false, f)
theorem dwc_lt {x : Nat} {f : Nat → Nat} {y : Nat} (h : ∀ i, f i < 64) (i : Nat) : dwc K x f y i < 64 := by
  unfold dwc
  cases K f x y with
  | true => exact h i
  | false =>
    show upd f x (clr (f x) y) i < 64
    unfold upd; split
    · exact clr_lt _ _
    · exact h i
theorem fold_ltK {γ : Type} {g : (Nat → Nat) → γ → (Nat → Nat)} (hg : ∀ f c, (∀ i, f i < 64) → ∀ i, g f c i < 64) : ∀ (l : List γ) (f : Nat → Nat), (∀ i, f i < 64) → ∀ i, l.foldl g f i < 64
  | [], f, h => h
  | c :: l, f, h => fold_ltK hg l (g f c) (hg f c h)
theorem dwx_lt {f : Nat → Nat} {x : Nat} (h : ∀ i, f i < 64) : ∀ i, dwx K f x i < 64 := fold_ltK (fun f y h => dwc_lt h) _ f h
theorem dws_lt {m : Nat} {f : Nat → Nat} (h : ∀ i, f i < 64) : ∀ i, dws K m f i < 64 := fold_ltK (fun f x h => dwx_lt h) _ f h
structure Ch (s t : Bool × (Nat → Nat)) : Prop where
  no : t.1 = false → s.1 = false ∧ t.2 = s.2
  yes : t.1 = true → s.1 = true ∨ sizeF t.2 < sizeF s.2
  le : sizeF t.2 ≤ sizeF s.2
theorem Ch.refl (s : Bool × (Nat → Nat)) : Ch s s := ⟨fun h => ⟨h, rfl⟩, fun h => .inl h, Nat.le_refl _⟩
theorem Ch.trans {s t u : Bool × (Nat → Nat)} (h : Ch s t) (h' : Ch t u) : Ch s u := by
  refine ⟨fun hu => ?_, fun hu => ?_, Nat.le_trans h'.le h.le⟩
  · obtain ⟨a, b⟩ := h'.no hu
    obtain ⟨c, d⟩ := h.no a
    exact ⟨c, b.trans d⟩
  · rcases h'.yes hu with a | a
    · rcases h.yes a with b | b
      · exact .inl b
      · exact .inr (Nat.lt_of_le_of_lt h'.le b)
    · exact .inr (Nat.lt_of_lt_of_le a h.le)
theorem swc_fold {x : Nat} (hx : x < 6) : ∀ (ys : List Nat) (s : Bool × (Nat → Nat)), ys.Nodup → (∀ i, s.2 i < 64) → (∀ y ∈ ys, y < 6 ∧ (s.2 x).testBit y = true) →
    Ch s (ys.foldl (swc K x) s) ∧ ((ys.foldl (swc K x) s).1 = false → ∀ y ∈ ys, K s.2 x y = true)
  | [], s, _, _, _ => ⟨Ch.refl s, fun _ y hy => by cases hy⟩
  | y :: ys, s, hn, h64, hy => by
    have hn' := List.nodup_cons.1 hn
    have hy0 := hy y (by simp)
    rw [List.foldl_cons]
    unfold swc
    cases hK : K s.2 x y with
    | true =>
      rw [cond_true]
      have ih := swc_fold hx ys s hn'.2 h64 fun z hz => hy z (by simp [hz])
      refine ⟨ih.1, fun h z hz => ?_⟩
      rcases List.mem_cons.1 hz with rfl | hz
      · exact hK
      · exact ih.2 h z hz
    | false =>
      rw [cond_false]
      have ih := swc_fold hx ys (true, upd s.2 x (clr (s.2 x) y)) hn'.2 (fun i => by
        show upd s.2 x (clr (s.2 x) y) i < 64
        unfold upd; split
        · exact clr_lt _ _
        · exact h64 i) (fun z hz => by
        refine ⟨(hy z (by simp [hz])).1, ?_⟩
        show (upd s.2 x (clr (s.2 x) y) x).testBit z = true
        unfold upd
        have hne : ¬ z = y := fun e => hn'.1 (by rw [← e]; exact hz)
        rw [if_pos rfl, clr_test (h64 x) hy0.1, (hy z (by simp [hz])).2, decide_eq_false hne]; rfl)
      have hc : Ch s (true, upd s.2 x (clr (s.2 x) y)) := by
        have := size_upd hx (card_clr (h64 x) hy0.1 hy0.2)
        exact ⟨fun h => (by cases h), fun _ => .inr this, Nat.le_of_lt this⟩
      refine ⟨hc.trans ih.1, fun h => ?_⟩
      have := (ih.1.no h).1
      cases this
theorem swx_ch {s : Bool × (Nat → Nat)} {x : Nat} (hx : x < 6) (h64 : ∀ i, s.2 i < 64) : Ch s (swx K s x) ∧ ((swx K s x).1 = false → ∀ y ∈ bl (s.2 x), K s.2 x y = true) :=
  swc_fold hx _ s (bl_nodup _) h64 fun y hy => mem_bl.1 hy
theorem swx_fold : ∀ (xs : List Nat) (s : Bool × (Nat → Nat)), (∀ x ∈ xs, x < 6) → (∀ i, s.2 i < 64) →
    Ch s (xs.foldl (swx K) s) ∧ ((xs.foldl (swx K) s).1 = false → ∀ x ∈ xs, ∀ y ∈ bl (s.2 x), K s.2 x y = true)
  | [], s, _, _ => ⟨Ch.refl s, fun _ y hy => by cases hy⟩
  | x :: xs, s, hx, h64 => by
    have h1 := swx_ch (K := K) (s := s) (hx x (by simp)) h64
    have ih := swx_fold xs (swx K s x) (fun z hz => hx z (by simp [hz])) (by rw [swx_snd]; exact dwx_lt h64)
    rw [List.foldl_cons]
    refine ⟨h1.1.trans ih.1, fun h => ?_⟩
    obtain ⟨a, b⟩ := ih.1.no h
    obtain ⟨c, d⟩ := h1.1.no a
    intro z hz
    rcases List.mem_cons.1 hz with rfl | hz
    · exact h1.2 a
    · have := ih.2 h z hz
      rw [d] at this
      exact this
theorem sws_ch {m : Nat} (hm : m ≤ 6) {f : Nat → Nat} (h64 : ∀ i, f i < 64) : Ch (false, f) (sws K m f) ∧ ((sws K m f).1 = false → ∀ x, x < m → ∀ y ∈ bl (f x), K f x y = true) := by
  have h := swx_fold (K := K) (List.range m) (false, f) (fun x hx => by have := List.mem_range.1 hx; omega) h64
  exact ⟨h.1, fun hh x hx => h.2 hh x (List.mem_range.2 hx)⟩
theorem dws_fix {m : Nat} (hm : m ≤ 6) : ∀ (n : Nat) {f : Nat → Nat}, (∀ i, f i < 64) → sizeF f ≤ n → (sws K m (itr (dws K m) n f)).1 = false
  | 0, f, h64, hs => by
    have h := sws_ch (K := K) hm h64
    cases hc : (sws K m f).1 with
    | false => exact hc
    | true =>
      rcases h.1.yes hc with a | a
      · cases a
      · have : sizeF (sws K m f).2 < sizeF f := a
        omega
  | n + 1, f, h64, hs => by
    have h := sws_ch (K := K) hm h64
    cases hc : (sws K m f).1 with
    | false =>
      have hf : dws K m f = f := by rw [← sws_snd]; exact (h.1.no hc).2
      rw [itr_fix hf]; exact hc
    | true =>
      rcases h.1.yes hc with a | a
      · cases a
      · have a' : sizeF (dws K m f) < sizeF f := by rw [← sws_snd]; exact a
        rw [itr]
        exact dws_fix hm n (dws_lt h64) (by omega)
theorem fix_of {m : Nat} (hm : m ≤ 6) {f : Nat → Nat} (h64 : ∀ i, f i < 64) (h : (sws K m f).1 = false) : dws K m f = f := by
  rw [← sws_snd]; exact ((sws_ch hm h64).1.no h).2
def subF (p f : Nat → Nat) : Prop := ∀ x, Wi (p x) (f x)
def isPf (K : (Nat → Nat) → Nat → Nat → Bool) (m : Nat) (f : Nat → Nat) : Prop := ∀ x, x < m → ∀ y ∈ bl (f x), K f x y = true
theorem dwc_sub (hK : ∀ f g x y, subF f g → K f x y = true → K g x y = true) {p f : Nat → Nat} {x y : Nat} (hy : y < 6) (h64 : f x < 64) (hp : ∀ z ∈ bl (p x), K p x z = true) (h : subF p f) : subF p (dwc K x f y) := by
  unfold dwc
  cases hk : K f x y with
  | true => exact h
  | false =>
    intro i
    show Wi (p i) (upd f x (clr (f x) y) i)
    unfold upd
    split
    · rename_i hi
      subst hi
      refine Nat.eq_of_testBit_eq fun z => ?_
      rw [Nat.testBit_or, clr_test h64 hy]
      cases hz : (p i).testBit z with
      | false => rfl
      | true =>
        have h1 := (h i).test hz
        have : z ≠ y := by
          rintro rfl
          have := hK p f i z h (hp z (mem_bl.2 ⟨hy, hz⟩))
          rw [hk] at this; cases this
        rw [h1, decide_eq_false this]; rfl
    · exact h i
theorem dwx_sub (hK : ∀ f g x y, subF f g → K f x y = true → K g x y = true) {p : Nat → Nat} {x : Nat} (hp : ∀ z ∈ bl (p x), K p x z = true) : ∀ (ys : List Nat) {f : Nat → Nat}, (∀ y ∈ ys, y < 6) → (∀ i, f i < 64) → subF p f → subF p (ys.foldl (dwc K x) f)
  | [], f, _, _, h => h
  | y :: ys, f, hy, h64, h => dwx_sub hK hp ys (fun z hz => hy z (by simp [hz])) (dwc_lt h64) (dwc_sub hK (hy y (by simp)) (h64 x) hp h)
theorem dws_sub (hK : ∀ f g x y, subF f g → K f x y = true → K g x y = true) {p : Nat → Nat} : ∀ (xs : List Nat) {f : Nat → Nat}, (∀ x ∈ xs, ∀ z ∈ bl (p x), K p x z = true) → (∀ i, f i < 64) → subF p f → subF p (xs.foldl (dwx K) f)
  | [], f, _, _, h => h
  | x :: xs, f, hp, h64, h => dws_sub hK xs (fun z hz => hp z (by simp [hz])) (dwx_lt h64) (dwx_sub hK (hp x (by simp)) _ (fun y hy => (mem_bl.1 hy).1) h64 h)
theorem itr_sub (hK : ∀ f g x y, subF f g → K f x y = true → K g x y = true) {m : Nat} {p : Nat → Nat} (hp : isPf K m p) : ∀ (k : Nat) {f : Nat → Nat}, (∀ i, f i < 64) → subF p f → subF p (itr (dws K m) k f)
  | 0, f, _, h => h
  | k + 1, f, h64, h => itr_sub hK hp k (dws_lt h64) (dws_sub hK _ (fun x hx => hp x (List.mem_range.1 hx)) h64 h)
end
end Go.Am

set_option maxRecDepth 100000
set_option linter.unusedVariables false
set_option linter.unusedSimpArgs false
set_option linter.unusedSectionVars false
namespace Go.Am
open Go
def badK (m' : Nat) (l' : List St3) (f : Nat → Nat) (x y : Nat) (z : St3) : Bool := decide (z.1 = (x : Int)) && decide (comesN m' l' (2 ^ y) z.2.1 &&& f z.2.2.toNat = 0)
def keepN (l : List St3) (m' : Nat) (l' : List St3) (f : Nat → Nat) (x y : Nat) : Bool := !l.any (badK m' l' f x y)
theorem andS {a b : Nat} (ha : a < 64) (hb : b < 64) : Ar.std.bits .and .u8 (a : Int) (b : Int) = ((a &&& b : Nat) : Int) := by rw [std_bits]; exact and_u8 a b (by omega) (by omega)
def badL (l : List St3) (m' : Nat) (l' : List St3) (f : Nat → Nat) (x y lab : Nat) : Bool := (bl (stepN l (2 ^ x) (lab : Int))).any fun to => decide (f to &&& comesN m' l' (2 ^ y) (lab : Int) = 0)
theorem step_mem {l : List St3} (hl : SOk l) {x lab : Nat} (to : Nat) : to ∈ bl (stepN l (2 ^ x) (lab : Int)) ↔ ∃ z ∈ l, z.2.1 = (lab : Int) ∧ z.1 = (x : Int) ∧ z.2.2 = (to : Int) := by
  rw [mem_bl, stepN_test]
  simp only [List.any_eq_true, goes, Bool.and_eq_true, decide_eq_true_eq, Nat.testBit_two_pow]
  constructor
  · rintro ⟨h6, z, hz, ⟨h1, h2⟩, h3⟩
    have := hl.2 z hz
    exact ⟨z, hz, h1, by omega, by omega⟩
  · rintro ⟨z, hz, h1, h2, h3⟩
    have := hl.2 z hz
    refine ⟨by omega, z, hz, ⟨h1, by omega⟩, by omega⟩
theorem keep_labels {l : List St3} (hl : SOk l) (m' : Nat) (l' : List St3) (f : Nat → Nat) (x y : Nat) : (List.range 4).any (badL l m' l' f x y) = l.any (badK m' l' f x y) := by
  rw [Bool.eq_iff_iff]
  simp only [List.any_eq_true, List.mem_range, badL, badK, Bool.and_eq_true, decide_eq_true_eq]
  constructor
  · rintro ⟨lab, hlab, to, hto, h0⟩
    obtain ⟨z, hz, h1, h2, h3⟩ := (step_mem hl to).1 hto
    refine ⟨z, hz, h2, ?_⟩
    rw [h1, h3, Int.toNat_natCast, Nat.and_comm]; exact h0
  · rintro ⟨z, hz, h1, h2⟩
    have := hl.2 z hz
    have e : ((z.2.1.toNat : Nat) : Int) = z.2.1 := by omega
    refine ⟨z.2.1.toNat, by omega, z.2.2.toNat, (step_mem hl _).2 ⟨z, hz, by omega, h1, by omega⟩, ?_⟩
    rw [e, Nat.and_comm]; exact h2
theorem R99_eq {m m' : Nat} {l l' : List St3} (S : Sys m l) (S' : Sys m' l') {f : Nat → Nat} (hf : ∀ i, f i < 64) {x y : Nat} (hx : x < 6) (hy : y < m') : R99 Ar.std (rU f) (x : Int) (y : Int) (FR m l (tF m l)) (FR m' l' (tF m' l')) = some (keepN l m' l' f x y) := by
  have hm' := S'.le
  have hy6 : y < 6 := by omega
  have key := iter_stop (step := R99L1 Ar.std (rU f) (x : Int) (y : Int) (FR m l (tF m l)) (FR m' l' (tF m' l'))) 4 (fun i => (i : Int)) (badL l m' l' f x y) () (fun lab hlab _ => by
    have hs : tF m l (6 * lab + x) = stepN l (2 ^ x) (lab : Int) := by
      rw [tF_step _ (by omega), show (6 * lab + x) % 6 = x from by omega, show (6 * lab + x) / 6 = lab from by omega]
    have hst : stepN l (2 ^ x) (lab : Int) < 64 := stepN_lt S.ok _ _
    have hc : tF m' l' (24 + 6 * lab + y) = comesN m' l' (2 ^ y) (lab : Int) := tF_comes hlab hy hy6
    have hc64 : comesN m' l' (2 ^ y) (lab : Int) < 64 := lt64 hm' (comesN_ltB S'.sb (Nat.pow_lt_pow_right (by decide) hy) _)
    have inner := iter_stop (step := R99L0 Ar.std (rU f) (y : Int) (FR m' l' (tF m' l')) (lab : Int) (eInt (cNs (bl (stepN l (2 ^ x) (lab : Int)))))) (bl (stepN l (2 ^ x) (lab : Int))).length (fun i => (i : Int)) (fun i => ((bl (stepN l (2 ^ x) (lab : Int)))[i]?.map fun to => decide (f to &&& comesN m' l' (2 ^ y) (lab : Int) = 0)).getD false) () (fun i hi _ => by
      have ha := List.getElem?_eq_getElem hi
      generalize (bl (stepN l (2 ^ x) (lab : Int)))[i] = a at ha
      have ha6 : a < 6 := (mem_bl.1 (List.mem_of_getElem? ha)).1
      have hlt : Ar.std.zlt (i : Int) (Ar.std.len (eInt (cNs (bl (stepN l (2 ^ x) (lab : Int)))))) = true := by rw [eIc_len]; exact ltN hi
      have hgt : gt Ar.std (cI .i64) (eInt (cNs (bl (stepN l (2 ^ x) (lab : Int))))) (i : Int) = some (a : Int) := gt_enc (cNs_get ha)
      have hb := bl_len (stepN l (2 ^ x) (lab : Int))
      have hix := ix3 lab y 24
      have hstep : R99L0 Ar.std (rU f) (y : Int) (FR m' l' (tF m' l')) (lab : Int) (eInt (cNs (bl (stepN l (2 ^ x) (lab : Int))))) (i : Int) = some (bif decide (f a &&& comesN m' l' (2 ^ y) (lab : Int) = 0) then .inr (.inr ()) else .inl ((i + 1 : Nat) : Int)) := by
        unfold R99L0
        rw [hlt, cond_true, hgt, bsome, ckN, bsome, ckL ha6, bsome, ix1, rU_gc _ ha6, bsome, ckN, bsome, ckL hlab, bsome, ckN, bsome, ckL hy6, bsome, hix, FR_gc _ _ _ (by omega), bsome, hc, andS (hf a) hc64, zeqN, inc (by omega : i < 100) (by decide)]
        cases decide (f a &&& comesN m' l' (2 ^ y) (lab : Int) = 0) <;> rfl
      rw [ha, Option.map_some, Option.getD_some]
      exact ⟨fun hb => by rw [hstep, hb, cond_false], fun hb => ⟨(), by rw [hstep, hb, cond_true]⟩⟩) (fun _ => by
      unfold R99L0
      rw [show Ar.std.zlt ((bl (stepN l (2 ^ x) (lab : Int))).length : Int) (Ar.std.len (eInt (cNs (bl (stepN l (2 ^ x) (lab : Int)))))) = false from by rw [eIc_len]; exact geN _, cond_false])
    have hany : (List.range (bl (stepN l (2 ^ x) (lab : Int))).length).any (fun i => ((bl (stepN l (2 ^ x) (lab : Int)))[i]?.map fun to => decide (f to &&& comesN m' l' (2 ^ y) (lab : Int) = 0)).getD false) = badL l m' l' f x y lab := by
      unfold badL
      rw [Bool.eq_iff_iff]
      simp only [List.any_eq_true, List.mem_range]
      constructor
      · rintro ⟨i, hi, h⟩
        rw [List.getElem?_eq_getElem hi, Option.map_some, Option.getD_some] at h
        exact ⟨_, List.getElem_mem hi, h⟩
      · rintro ⟨a, ha, h⟩
        obtain ⟨i, hi, rfl⟩ := List.getElem_of_mem ha
        exact ⟨i, hi, by rw [List.getElem?_eq_getElem hi, Option.map_some, Option.getD_some]; exact h⟩
    rw [hany] at inner
    have hix2 := ix3 lab x 0
    rw [show 0 + 6 * lab + x = 6 * lab + x from by omega] at hix2
    have e0 : (((0 : Nat) : Int)) = 0 := rfl
    have hL : iter (R99L0 Ar.std (rU f) (y : Int) (FR m' l' (tF m' l')) (lab : Int) (eInt (cNs (bl (stepN l (2 ^ x) (lab : Int)))))) 0 = some (bif badL l m' l' f x y lab then .inr () else .inl ()) := by
      rw [← e0]
      rcases inner with ⟨h1, _, h3⟩ | ⟨h1, z, h3⟩
      · rw [h1]; exact h3
      · rw [h1]; exact h3
    have hstep : R99L1 Ar.std (rU f) (x : Int) (y : Int) (FR m l (tF m l)) (FR m' l' (tF m' l')) (lab : Int) = some (bif badL l m' l' f x y lab then .inr (.inr ()) else .inl ((lab + 1 : Nat) : Int)) := by
      unfold R99L1
      rw [lt4 hlab, cond_true, ckN, bsome, ckL hlab, bsome, ckN, bsome, ckL hx, bsome, hix2, FR_gc _ _ _ (by omega), bsome, hs, R76_eq _ hst, bsome, hL, bsome, inc (by omega : lab < 100) (by decide)]
      cases badL l m' l' f x y lab <;> rfl
    exact ⟨fun hb => by rw [hstep, hb, cond_false], fun hb => ⟨(), by rw [hstep, hb, cond_true]⟩⟩) (fun _ => by
    unfold R99L1
    rw [show Ar.std.zlt ((4 : Nat) : Int) 4 = false from rfl, cond_false])
  have e0 : (((0 : Nat) : Int)) = 0 := rfl
  rw [e0, keep_labels S.ok] at key
  unfold R99 keepN
  rw [rU_len, bsome]
  rcases key with ⟨h1, _, h3⟩ | ⟨h1, z, h3⟩
  · rw [h3, bsome, h1]; rfl
  · rw [h3, bsome, h1]; rfl
end Go.Am

set_option maxRecDepth 100000
set_option linter.unusedVariables false
set_option linter.unusedSimpArgs false
set_option linter.unusedSectionVars false
namespace Go.Am
open Go
section
variable {m m' : Nat} {l l' : List St3}
def allF (m m' : Nat) (x : Nat) : Nat := if x < m then 2 ^ m' - 1 else 0
theorem allF_size : ∀ (m m' : Fin 7), sizeF (allF m.val m'.val) ≤ m.val * m'.val := by decide +kernel
def bestF (m : Nat) (l : List St3) (m' : Nat) (l' : List St3) : Nat → Nat := itr (dws (keepN l m' l') m) (m * m') (allF m m')
theorem clr_ltB {a y n : Nat} (h : a < 2 ^ n) : clr a y < 2 ^ n := Nat.lt_of_le_of_lt Nat.and_le_left h
theorem dwc_inB {K : (Nat → Nat) → Nat → Nat → Bool} {x y : Nat} {f : Nat → Nat} (h : ∀ i, f i < 2 ^ m') (i : Nat) : dwc K x f y i < 2 ^ m' := by
  unfold dwc
  cases K f x y with
  | true => exact h i
  | false =>
    show upd f x (clr (f x) y) i < _
    unfold upd; split
    · exact clr_ltB (h x)
    · exact h i
theorem fold_inv {γ S : Type} {P : S → Prop} {g : S → γ → S} (hg : ∀ f c, P f → P (g f c)) : ∀ (l : List γ) (f : S), P f → P (l.foldl g f)
  | [], f, h => h
  | c :: l, f, h => fold_inv hg l (g f c) (hg f c h)
theorem dwx_inB {K : (Nat → Nat) → Nat → Nat → Bool} {x : Nat} {f : Nat → Nat} (h : ∀ i, f i < 2 ^ m') : ∀ i, dwx K f x i < 2 ^ m' := fold_inv (g := dwc K x) (P := fun f => ∀ i, f i < 2 ^ m') (fun f c h => dwc_inB (f := f) h) _ f h
theorem dws_inB {K : (Nat → Nat) → Nat → Nat → Bool} {f : Nat → Nat} (h : ∀ i, f i < 2 ^ m') : ∀ i, dws K m f i < 2 ^ m' := fold_inv (g := dwx K) (P := fun f => ∀ i, f i < 2 ^ m') (fun f c h => dwx_inB (f := f) h) _ f h
theorem itr_inB {K : (Nat → Nat) → Nat → Nat → Bool} : ∀ (k : Nat) {f : Nat → Nat}, (∀ i, f i < 2 ^ m') → ∀ i, itr (dws K m) k f i < 2 ^ m'
  | 0, f, h => h
  | k + 1, f, h => itr_inB k (dws_inB h)
theorem allF_inB (i : Nat) : allF m m' i < 2 ^ m' := by
  have := Nat.two_pow_pos m'
  unfold allF; split <;> omega
theorem lt2 {m' : Nat} (hm' : m' ≤ 6) {f : Nat → Nat} (h : ∀ i, f i < 2 ^ m') : ∀ i, f i < 64 := fun i => lt64 hm' (h i)
theorem andNotS {a y : Nat} (ha : a < 64) (hy : y < 6) : Ar.std.bits .andNot .u8 (a : Int) ((2 ^ y : Nat) : Int) = ((clr a y : Nat) : Int) := by rw [std_bits]; exact andNot_u8 ⟨a, ha⟩ ⟨y, hy⟩
theorem R90L1_eq (S : Sys m l) (S' : Sys m' l') {x : Nat} (hx : x < 6) {a : Nat} (ha : a < 2 ^ m') (s0 : Bool × (Nat → Nat)) (h0 : ∀ i, s0.2 i < 2 ^ m') :
    iter (R90L1 Ar.std (FR m l (tF m l)) (FR m' l' (tF m' l')) (x : Int) (eInt (cNs (bl a)))) (s0.1, 0, rU s0.2) = some (((bl a).foldl (swc (keepN l m' l') x) s0).1, rU ((bl a).foldl (swc (keepN l m' l') x) s0).2) := by
  have hm' := S'.le
  have hb := bl_len a
  have key := iter_foldI (step := R90L1 Ar.std (FR m l (tF m l)) (FR m' l' (tF m' l')) (x : Int) (eInt (cNs (bl a)))) (bl a) (fun (s : Bool × (Nat → Nat)) i => (s.1, (i : Int), rU s.2)) (swc (keepN l m' l') x) (fun s => (s.1, rU s.2)) (fun s => ∀ i, s.2 i < 2 ^ m') (fun i y s hy hi hI => by
    refine ⟨?_, by rw [swc_snd]; exact dwc_inB hI⟩
    have hym : y < m' := bl_lt ha (List.mem_of_getElem? hy)
    have hy6 : y < 6 := by omega
    have hlt : Ar.std.zlt (i : Int) (Ar.std.len (eInt (cNs (bl a)))) = true := by rw [eIc_len]; exact ltN hi
    have hgt : gt Ar.std (cI .i64) (eInt (cNs (bl a))) (i : Int) = some (y : Int) := gt_enc (cNs_get hy)
    unfold R90L1 swc
    dsimp only
    rw [hlt, cond_true, hgt, bsome, rU_ga, bsome, R99_eq S S' (lt2 hm' hI) hx hym, bsome, inc (by omega : i < 100) (by decide)]
    cases keepN l m' l' s.2 x y with
    | true => rfl
    | false =>
      rw [cond_false, cond_false, ckN, bsome, ckL hx, bsome, ix1, rU_gc _ hx, bsome, nkN, bsome, bsome, bsome, rU_lget _ hx, bsome, bsome, shlS (by omega), andNotS (lt2 hm' hI x) hy6, rU_lset]) (fun s _ => by
    unfold R90L1
    dsimp only
    rw [show Ar.std.zlt ((bl a).length : Int) (Ar.std.len (eInt (cNs (bl a)))) = false from by rw [eIc_len]; exact geN _, cond_false]) s0 h0
  exact key
theorem range_get {n i : Nat} {a : Nat} (h : (List.range n)[i]? = some a) : a = i ∧ i < n := by
  rw [List.getElem?_eq_some_iff] at h
  obtain ⟨h1, h2⟩ := h
  rw [List.length_range] at h1
  rw [List.getElem_range] at h2
  exact ⟨h2.symm, h1⟩
theorem R90L2_eq (S : Sys m l) (S' : Sys m' l') (s0 : Bool × (Nat → Nat)) (h0 : ∀ i, s0.2 i < 2 ^ m') :
    iter (R90L2 Ar.std (FR m l (tF m l)) (FR m' l' (tF m' l')) (m : Int)) (s0.1, 0, rU s0.2) = some (((List.range m).foldl (swx (keepN l m' l')) s0).1, rU ((List.range m).foldl (swx (keepN l m' l')) s0).2) := by
  have hm := S.le
  have hm' := S'.le
  have key := iter_foldI (step := R90L2 Ar.std (FR m l (tF m l)) (FR m' l' (tF m' l')) (m : Int)) (List.range m) (fun (s : Bool × (Nat → Nat)) i => (s.1, (i : Int), rU s.2)) (swx (keepN l m' l')) (fun s => (s.1, rU s.2)) (fun s => ∀ i, s.2 i < 2 ^ m') (fun i x s hx hi hI => by
    refine ⟨?_, by rw [swx_snd]; exact dwx_inB hI⟩
    obtain ⟨rfl, hi⟩ := range_get hx
    unfold R90L2 swx
    dsimp only
    rw [ltN hi, cond_true, ckN, bsome, ckL (by omega : x < 6), bsome, ix1, rU_gc _ (by omega), bsome, R76_eq _ (lt2 hm' hI x), bsome, R90L1_eq S S' (by omega) (hI x) s hI, bsome, inc (by omega : x < 100) (by decide)]) (fun s _ => by
    unfold R90L2
    dsimp only
    rw [List.length_range, geN, cond_false]) s0 h0
  exact key
theorem FR_gc0' (n : Int) (l : List St3) (f : Nat → Nat) : gc Ar.std (cI .i64) (FR n l f) (Ar.std.nat 0) = some n := FR_gc0 n l f
theorem R90L3_eq (S : Sys m l) (S' : Sys m' l') : ∀ (n : Nat) (f : Nat → Nat), (∀ i, f i < 2 ^ m') → sizeF f ≤ n →
    iter (R90L3 Ar.std (FR m l (tF m l)) (FR m' l' (tF m' l'))) (true, rU f) = some (rU (itr (dws (keepN l m' l') m) n f)) := by
  have step : ∀ (f : Nat → Nat), (∀ i, f i < 2 ^ m') → R90L3 Ar.std (FR m l (tF m l)) (FR m' l' (tF m' l')) (true, rU f) = some (.inl ((sws (keepN l m' l') m f).1, rU (sws (keepN l m' l') m f).2)) := fun f hf => by
    unfold R90L3
    dsimp only
    rw [cond_true, FR_gc0', bsome, R90L2_eq S S' (false, f) hf, bsome]; rfl
  have stop : ∀ (f : Nat → Nat), R90L3 Ar.std (FR m l (tF m l)) (FR m' l' (tF m' l')) (false, rU f) = some (.inr (rU f)) := fun f => by
    unfold R90L3
    dsimp only
    rw [cond_false]
  intro n
  induction n with
  | zero =>
    intro f hf hs
    have h := sws_ch (K := keepN l m' l') S.le (lt2 S'.le hf)
    have hst := step f hf
    cases hc : (sws (keepN l m' l') m f).1 with
    | false =>
      rw [hc, (h.1.no hc).2] at hst
      rw [iter_inl hst, iter_inr (stop f)]; rfl
    | true =>
      rcases h.1.yes hc with a | a
      · cases a
      · have : sizeF (sws (keepN l m' l') m f).2 < sizeF f := a
        omega
  | succ n ih =>
    intro f hf hs
    have h := sws_ch (K := keepN l m' l') S.le (lt2 S'.le hf)
    have hst := step f hf
    cases hc : (sws (keepN l m' l') m f).1 with
    | false =>
      rw [itr_fix (fix_of S.le (lt2 S'.le hf) hc)]
      rw [hc, (h.1.no hc).2] at hst
      rw [iter_inl hst, iter_inr (stop f)]
    | true =>
      rcases h.1.yes hc with a | a
      · cases a
      · have a' : sizeF (dws (keepN l m' l') m f) < sizeF f := by rw [← sws_snd]; exact a
        rw [hc, sws_snd] at hst
        rw [iter_inl hst, itr]
        exact ih _ (dws_inB hf) (by omega)
theorem bestF_inB : ∀ i, bestF m l m' l' i < 2 ^ m' := itr_inB _ allF_inB
theorem R90_eq (S : Sys m l) (S' : Sys m' l') : R90 Ar.std (FR m l (tF m l)) (FR m' l' (tF m' l')) = some (rU (bestF m l m' l')) := by
  have hm := S.le
  have hm' := S'.le
  have h2 : 2 ^ m' ≤ 64 := Nat.pow_le_pow_right (n := 2) (by decide) hm'
  have hp := Nat.two_pow_pos m'
  have key := iter_to (step := R90L0 Ar.std (FR m' l' (tF m' l')) (m : Int)) m (fun i => ((i : Int), rU (allF i m'))) (rU (allF m m')) (fun i hi => by
    have hw : Ar.std.wrp .u8 (Ar.std.zsub (Ar.std.shl .u8 1 (m' : Int)) 1) = ((2 ^ m' - 1 : Nat) : Int) := by
      rw [shlS (by omega), std_wrp, std_zsub, u8w _ (by omega) (by omega)]; omega
    have hu : upd (allF i m') i (2 ^ m' - 1) = allF (i + 1) m' := by
      funext j
      unfold upd allF
      by_cases h : j = i
      · rw [if_pos h, if_pos (by omega)]
      · rw [if_neg h]
        by_cases h2 : j < i
        · rw [if_pos h2, if_pos (by omega)]
        · rw [if_neg h2, if_neg (by omega)]
    unfold R90L0
    dsimp only
    rw [ltN hi, cond_true, FR_gc0', bsome, nkN, bsome, ckN, bsome, ckL (by omega : i < 6), bsome, ix1, rU_lget _ (by omega), bsome, hw, rU_lset, hu, inc (by omega : i < 100) (by decide)]) (by
    unfold R90L0
    dsimp only
    rw [geN, cond_false])
  have e0 : rU (allF 0 m') = rU fun _ => 0 := rU_congr fun i _ => by unfold allF; rw [if_neg (by omega)]
  rw [e0] at key
  have hsz : sizeF (allF m m') ≤ m * m' := allF_size ⟨m, by omega⟩ ⟨m', by omega⟩
  have h3 := R90L3_eq S S' (m * m') (allF m m') allF_inB hsz
  unfold R90
  have key' : iter (R90L0 Ar.std (FR m' l' (tF m' l')) (m : Int)) (0, Ar.std.rep (Int.ofNat 6) (.int .u8 0)) = some (rU (allF m m')) := by rw [rU_rep]; exact key
  rw [FR_gc0', bsome, key', bsome, h3, bsome]
  show (ga Ar.std (rU (bestF m l m' l')) _ _).bind _ = _
  rw [rU_ga, bsome, rU_len, bsome, rU_room, bsome, rU_spl, rU_len, bsome, rU_ones, bsome]
end
end Go.Am

set_option maxRecDepth 100000
set_option linter.unusedVariables false
set_option linter.unusedSimpArgs false
set_option linter.unusedSectionVars false
namespace Go.Am
open Go
section
variable {m m' : Nat} {l l' : List St3}
end
def bst (n : Int) (l : List St3) (n' : Int) (l' : List St3) : List P2 × Int :=
  bif vSys n l && vSys n' l' then (prs n.toNat (bestF n.toNat l n'.toNat l'), 0) else ([], 50)
theorem bestF_out {m m' : Nat} {l l' : List St3} (hm : m ≤ 6) {x : Nat} (hx : m ≤ x) : bestF m l m' l' x = 0 := by
  have key : ∀ (k : Nat) (f : Nat → Nat), f x = 0 → itr (dws (keepN l m' l') m) k f x = 0 := by
    intro k
    induction k with
    | zero => exact fun f h => h
    | succ k ih =>
      intro f h
      refine ih _ ?_
      unfold dws
      refine fold_inv (g := dwx (keepN l m' l')) (P := fun f => f x = 0) (fun f c h => ?_) _ f h
      unfold dwx
      refine fold_inv (g := dwc (keepN l m' l') c) (P := fun f => f x = 0) (fun f y h => ?_) _ f h
      unfold dwc
      cases keepN l m' l' f c y with
      | true => exact h
      | false =>
        show upd f c (clr (f c) y) x = 0
        unfold upd
        by_cases hx : x = c
        · subst hx
          rw [if_pos rfl, h]; simp [clr]
        · rw [if_neg hx]; exact h
  exact key _ _ (by unfold allF; rw [if_neg (by omega)])
theorem prs6 {m m' : Nat} {l l' : List St3} (hm : m ≤ 6) : prs 6 (bestF m l m' l') = prs m (bestF m l m' l') := by
  have h := prs_zero (n := m) (f := bestF m l m' l') (fun i hi => bestF_out hm hi) (6 - m)
  rw [show m + (6 - m) = 6 from by omega] at h
  exact h
theorem R47_eq (n n' : Int) (l l' : List St3) (hl : l.length < Lg) (hl' : l'.length < Lg) : R47 Ar.std n (eSt l) n' (eSt l') = some (ePr (bst n l n' l').1, (bst n l n' l').2) := by
  unfold R47 bst
  rw [R70_eq n n' l l' hl hl', bsome]
  cases hv : vSys n l with
  | false => rfl
  | true =>
    cases hv' : vSys n' l' with
    | false => rfl
    | true =>
      obtain ⟨m, rfl, S⟩ := Sys.of hv
      obtain ⟨m', rfl, S'⟩ := Sys.of hv'
      have e : R90 Ar.std (FR m l (tF m l)) (FR m' l' (tF m' l')) = some (rU (bestF m l m' l')) := R90_eq S S'
      have h6 := R86_eq (f := bestF m l m' l') (lt2 S'.le bestF_inB)
      simp only [cond_true, Int.toNat_natCast, Bool.and_self, Sum.elim_inl]
      rw [e, bsome, h6, bsome, prs6 S.le]
def rfn (n : Int) (l : List St3) (n' : Int) (l' : List St3) : Bool × Int :=
  bif vSys n l && vSys n' l' then ((bestF n.toNat l n'.toNat l' 0).testBit 0, 0) else (false, 50)
theorem R91_eq {a i : Nat} (ha : a < 64) (hi : i < 6) : R91 Ar.std (a : Int) (i : Int) = some (a.testBit i) := by
  unfold R91
  rw [nkN, bsome]
  have h := has_u8 a i (by omega) (by omega)
  simp only [std_zeq, std_bits, std_shr]
  rw [h]
theorem R44_eq (n n' : Int) (l l' : List St3) (hl : l.length < Lg) (hl' : l'.length < Lg) : R44 Ar.std n (eSt l) n' (eSt l') = some (rfn n l n' l') := by
  unfold R44 rfn
  rw [R70_eq n n' l l' hl hl', bsome]
  cases hv : vSys n l with
  | false => rfl
  | true =>
    cases hv' : vSys n' l' with
    | false => rfl
    | true =>
      obtain ⟨m, rfl, S⟩ := Sys.of hv
      obtain ⟨m', rfl, S'⟩ := Sys.of hv'
      have e : R90 Ar.std (FR m l (tF m l)) (FR m' l' (tF m' l')) = some (rU (bestF m l m' l')) := R90_eq S S'
      have h9 : R91 Ar.std ((bestF m l m' l' 0 : Nat) : Int) 0 = some ((bestF m l m' l' 0).testBit 0) := R91_eq (i := 0) (lt2 S'.le bestF_inB 0) (by decide)
      simp only [cond_true, Int.toNat_natCast, Bool.and_self, Sum.elim_inl]
      rw [e, bsome, rU_gc _ (by decide), bsome, h9, bsome]
end Go.Am

set_option maxRecDepth 100000
set_option linter.unusedVariables false
set_option linter.unusedSimpArgs false
set_option linter.unusedSectionVars false
namespace Go.Am
open Go
def keepP (l : List St3) (m' : Nat) (l' : List St3) (f : Nat → Nat) (p : P2) : Bool := keepN l m' l' f p.1.toNat p.2.toNat
def isPr (n : Int) (l : List St3) (n' : Int) (l' : List St3) (r : List P2) : Bool × Int :=
  bif vSys n l && vSys n' l' then bif isRel n.toNat n'.toNat r then (r.all (keepP l n'.toNat l' (relF r)), 0) else (false, 2) else (false, 50)
section
variable {m m' : Nat} {l l' : List St3} (S : Sys m l) (S' : Sys m' l')
include S S'
theorem R98_eq {f : Nat → Nat} (hf : ∀ i, f i < 64) {p : P2} (hp : (0 ≤ p.1 ∧ p.1.toNat < m) ∧ (0 ≤ p.2 ∧ p.2.toNat < m')) : R98 Ar.std p.1 p.2 (FR m l (tF m l)) (FR m' l' (tF m' l')) (rU f) = some (!keepP l m' l' f p) := by
  have hm := S.le
  have h := R99_eq S S' hf (x := p.1.toNat) (y := p.2.toNat) (by omega) hp.2.2
  rw [show ((p.1.toNat : Nat) : Int) = p.1 from by omega, show ((p.2.toNat : Nat) : Int) = p.2 from by omega] at h
  unfold R98
  rw [rU_ga, bsome, h, bsome]; rfl
theorem R97_eq {f : Nat → Nat} (hf : ∀ i, f i < 64) {r : List P2} (hr : r.length < Lg) (hp : ∀ p ∈ r, (0 ≤ p.1 ∧ p.1.toNat < m) ∧ (0 ≤ p.2 ∧ p.2.toNat < m')) :
    R97 Ar.std (ePr r) (FR m l (tF m l)) (FR m' l' (tF m' l')) (rU f) = some (!r.all (keepP l m' l' f)) := by
  have key := iter_find (step := R110L0 Ar.std (ePr r) (FR m l (tF m l)) (FR m' l' (tF m' l')) (rU f)) r (fun p => !keepP l m' l' f p) (fun i => .inr (i : Int)) (.inl ()) (fun i p hi hlt => by
    have hget : gt Ar.std cP (ePr r) (i : Int) = some p := gt_enc hi
    unfold R110L0
    rw [ltS hlt, cond_true, hget, bsome]
    have h98 := R98_eq S S' hf (hp p (List.mem_of_getElem? hi))
    dsimp only
    rw [h98, bsome, inc hlt hr]
    cases keepP l m' l' f p <;> rfl) (by
    unfold R110L0
    rw [geS, cond_false])
  unfold R97 R110
  rw [key, bsome, find_elim, bsome, std_zle, find_le, any_notB]
end
theorem R49_eq (n n' : Int) (l l' : List St3) (hl : l.length < Lg) (hl' : l'.length < Lg) (r : List P2) (hr : r.length < Lg) : R49 Ar.std n (eSt l) n' (eSt l') (ePr r) = some (isPr n l n' l' r) := by
  unfold R49 isPr
  rw [R70_eq n n' l l' hl hl', bsome]
  cases hv : vSys n l with
  | false => rfl
  | true =>
    cases hv' : vSys n' l' with
    | false => rfl
    | true =>
      obtain ⟨m, rfl, S⟩ := Sys.of hv
      obtain ⟨m', rfl, S'⟩ := Sys.of hv'
      obtain ⟨f, h1, h2⟩ := R85_eq (m := m) (n := m') ⟨S.pos, S.le⟩ ⟨S'.pos, S'.le⟩ r hr
      simp only [cond_true, Int.toNat_natCast, Bool.and_self, Sum.elim_inl]
      rw [h1, bsome]
      dsimp only
      rw [rU_len, bsome, rU_room, bsome]
      cases hv2 : isRel m m' r with
      | false => rfl
      | true =>
        have hok := isRel_ok hv2
        rw [h2 hv2, cond_true, cond_true, rU_spl, R97_eq S S' (relF_lt6 S'.le hv2) hr hok, bsome, Bool.not_not]
end Go.Am

set_option maxRecDepth 100000
set_option linter.unusedVariables false
set_option linter.unusedSimpArgs false
set_option linter.unusedSectionVars false
namespace Go.Am
open Go
def mem2 (f : Nat → Nat) (x y : Nat) : Prop := (f x).testBit y = true
theorem subF_mem {f g : Nat → Nat} (h : subF f g) {x y : Nat} (hm : mem2 f x y) : mem2 g x y := (h x).test hm
theorem subF_of {f g : Nat → Nat} (h : ∀ x y, mem2 f x y → mem2 g x y) : subF f g := fun x => by
  refine Nat.eq_of_testBit_eq fun z => ?_
  rw [Nat.testBit_or]
  cases hz : (f x).testBit z with
  | false => rfl
  | true => rw [show (g x).testBit z = true from h x z hz]; rfl
theorem subF.refl (f : Nat → Nat) : subF f f := fun x => Wi.refl _
theorem subF.trans {f g h : Nat → Nat} (a : subF f g) (b : subF g h) : subF f h := fun x => (a x).trans (b x)
section
variable (m' : Nat) (l' : List St3) (r : Nat → Nat)
def nx (y : Nat) (z : St3) : Nat := Lib.trailingZeros8 (r z.2.2.toNat &&& comesN m' l' (2 ^ y) z.2.1)
def Clo (l : List St3) (h : Nat → Nat) : Prop := ∀ (x y : Nat) (z : St3), z ∈ l → z.1 = (x : Int) → mem2 h x y → mem2 h z.2.2.toNat (nx m' l' r y z)
structure Least (l : List St3) (g : Nat → Nat) : Prop where
  clo : Clo m' l' r l g
  fst : mem2 g 0 0
  min : ∀ h, Clo m' l' r l h → mem2 h 0 0 → subF g h
end
section
variable {m m' : Nat} {l l' : List St3}
theorem keep_ne {f : Nat → Nat} {x y : Nat} (h : keepN l m' l' f x y = true) {z : St3} (hz : z ∈ l) (hx : z.1 = (x : Int)) : f z.2.2.toNat &&& comesN m' l' (2 ^ y) z.2.1 ≠ 0 := by
  unfold keepN at h
  rw [Bool.not_eq_true', Bool.eq_false_iff] at h
  intro h0
  refine h (List.any_eq_true.2 ⟨z, hz, ?_⟩)
  unfold badK
  rw [decide_eq_true hx, Nat.and_comm, decide_eq_true h0]; rfl
theorem keep_iff {f : Nat → Nat} {x y : Nat} : keepN l m' l' f x y = true ↔ ∀ z ∈ l, z.1 = (x : Int) → f z.2.2.toNat &&& comesN m' l' (2 ^ y) z.2.1 ≠ 0 := by
  refine ⟨fun h z hz hx => keep_ne h hz hx, fun h => ?_⟩
  unfold keepN
  rw [Bool.not_eq_true', Bool.eq_false_iff]
  intro ha
  obtain ⟨z, hz, hb⟩ := List.any_eq_true.1 ha
  unfold badK at hb
  simp only [Bool.and_eq_true, decide_eq_true_eq] at hb
  refine h z hz hb.1 ?_
  rw [Nat.and_comm]; exact hb.2
theorem keep_mono {f g : Nat → Nat} {x y : Nat} (h : subF f g) (hk : keepN l m' l' f x y = true) : keepN l m' l' g x y = true := by
  rw [keep_iff] at hk ⊢
  intro z hz hx h0
  refine hk z hz hx ?_
  refine Nat.eq_of_testBit_eq fun b => ?_
  have hb : (g z.2.2.toNat &&& comesN (m' : Int) l' (2 ^ y) z.2.1).testBit b = false := by rw [h0]; exact Nat.zero_testBit b
  rw [Nat.testBit_and] at hb
  rw [Nat.testBit_and, Nat.zero_testBit]
  cases hf : (f z.2.2.toNat).testBit b with
  | false => rfl
  | true => rw [(h _).test hf] at hb; exact hb
theorem bestF_pf (S : Sys m l) (S' : Sys m' l') : isPf (keepN l m' l') m (bestF m l m' l') := by
  have hm := S.le
  have hm' := S'.le
  have hsz : sizeF (allF m m') ≤ m * m' := allF_size ⟨m, by omega⟩ ⟨m', by omega⟩
  have hfix := dws_fix (K := keepN l m' l') hm (m * m') (f := allF m m') (lt2 hm' allF_inB) hsz
  exact (sws_ch hm (lt2 hm' bestF_inB)).2 hfix
theorem bestF_max (S : Sys m l) (S' : Sys m' l') {p : Nat → Nat} (hp : isPf (keepN l m' l') m p) (hall : subF p (allF m m')) : subF p (bestF m l m' l') :=
  itr_sub (K := keepN l m' l') (fun f g x y h hk => keep_mono h hk) hp _ (lt2 S'.le allF_inB) hall
theorem mem_lt6 {h : Nat → Nat} {x y : Nat} (hh : ∀ i, h i < 64) (hm : mem2 h x y) : y < 6 := by
  rcases Nat.lt_or_ge y 6 with h1 | h1
  · exact h1
  · unfold mem2 at hm
    rw [high_false (hh x) h1] at hm; cases hm
end
end Go.Am

set_option maxRecDepth 100000
set_option linter.unusedVariables false
set_option linter.unusedSimpArgs false
set_option linter.unusedSectionVars false
namespace Go.Am
open Go
section
variable {m m' : Nat} {l l' : List St3}
end
end Go.Am

set_option maxRecDepth 100000
set_option linter.unusedVariables false
set_option linter.unusedSimpArgs false
set_option linter.unusedSectionVars false
namespace Go.Am
open Go
def Suc (l : List St3) (m' : Nat) (l' : List St3) (r s : Nat → Nat) (a b : Nat) : Prop := ∀ z : St3, z ∈ l → z.1 = (a : Int) → mem2 s z.2.2.toNat (nx m' l' r b z)
theorem Suc.mono {l : List St3} {m' : Nat} {l' : List St3} {r s t : Nat → Nat} {a b : Nat} (h : Suc l m' l' r s a b) (hs : subF s t) : Suc l m' l' r t a b := fun z hz hx => subF_mem hs (h z hz hx)
structure Ex (l : List St3) (m' : Nat) (l' : List St3) (r o s : Nat → Nat) : Prop where
  sub : subF o s
  clo : ∀ a b, mem2 s a b → mem2 o a b ∨ Suc l m' l' r s a b
  min : ∀ h, Clo m' l' r l h → subF o h → subF s h
  lt : ∀ i, s i < 2 ^ m'
structure Dfs (l : List St3) (m' : Nat) (l' : List St3) (r : Nat → Nat) (x y : Nat) (o s : Nat → Nat) : Prop where
  sub : subF o s
  has : mem2 s x y
  clo : ∀ a b, mem2 s a b → mem2 o a b ∨ Suc l m' l' r s a b
  min : ∀ h, Clo m' l' r l h → subF o h → mem2 h x y → subF s h
  lt : ∀ i, s i < 2 ^ m'
section
variable {m m' : Nat} {l l' : List St3}
end
theorem small_P {l : List P2} {n : Nat} (h : l.length ≤ n) (hn : n ≤ 1000) : l.length < Lg := by show l.length < 9223372036854775808; omega
end Go.Am

set_option maxRecDepth 100000
set_option linter.unusedVariables false
set_option linter.unusedSimpArgs false
set_option linter.unusedSectionVars false
namespace Go.Am
open Go
theorem mem_prs {n : Nat} {f : Nat → Nat} {p : P2} : p ∈ prs n f ↔ ∃ x y : Nat, x < n ∧ y ∈ bl (f x) ∧ p = ((x : Int), (y : Int)) := by
  unfold prs
  simp only [List.mem_flatMap, List.mem_range, List.mem_map]
  constructor
  · rintro ⟨x, hx, y, hy, rfl⟩; exact ⟨x, y, hx, hy, rfl⟩
  · rintro ⟨x, y, hx, hy, rfl⟩; exact ⟨x, hx, y, hy, rfl⟩
theorem bl_asc (s : Nat) : (bl s).Pairwise (· < ·) := List.Pairwise.filter _ List.pairwise_lt_range
theorem prs_asc (f : Nat → Nat) : ∀ n, (prs n f).Pairwise fun a b => lessP a b = true
  | 0 => List.Pairwise.nil
  | n + 1 => by
    rw [prs_succ]
    refine List.pairwise_append.2 ⟨prs_asc f n, ?_, fun p hp q hq => ?_⟩
    · rw [List.pairwise_map]
      refine (bl_asc (f n)).imp fun {a b} h => ?_
      unfold lessP
      rw [decide_eq_true (rfl : (n : Int) = (n : Int)), decide_eq_true (by omega : (a : Int) < (b : Int))]; simp
    · obtain ⟨x, y, hx, _, rfl⟩ := mem_prs.1 hp
      obtain ⟨z, _, rfl⟩ := List.mem_map.1 hq
      unfold lessP
      rw [decide_eq_true (by omega : (x : Int) < (n : Int))]; rfl
theorem isRel_of {m n : Nat} {r : List P2} (hb : ∀ p ∈ r, (0 ≤ p.1 ∧ p.1.toNat < m) ∧ (0 ≤ p.2 ∧ p.2.toNat < n)) (hp : r.Pairwise fun a b => lessP a b = true) : isRel m n r = true := by
  unfold isRel
  rw [Bool.not_eq_true', Bool.eq_false_iff]
  intro h
  obtain ⟨i, hi, hbad⟩ := List.any_eq_true.1 h
  have hi := List.mem_range.1 hi
  have hg := List.getElem?_eq_getElem hi
  rw [badR_get hg] at hbad
  have hbb := hb _ (List.getElem_mem hi)
  have b1 : btw 0 r[i].1 ((m : Int) - 1) = true := by unfold btw; rw [decide_eq_true hbb.1.1, decide_eq_true (by omega)]; rfl
  have b2 : btw 0 r[i].2 ((n : Int) - 1) = true := by unfold btw; rw [decide_eq_true hbb.2.1, decide_eq_true (by omega)]; rfl
  rw [b1, b2] at hbad
  rcases Nat.eq_zero_or_pos i with h0 | h0
  · subst h0; simp at hbad
  · have hg' := List.getElem?_eq_getElem (l := r) (i := i - 1) (by omega)
    have hl := List.pairwise_iff_getElem.1 hp (i - 1) i (by omega) hi (by omega)
    rw [hg', Option.map_some, Option.getD_some, hl] at hbad
    simp at hbad
theorem prs_rel {m n : Nat} {f : Nat → Nat} (h : ∀ i, f i < 2 ^ n) : isRel m n (prs m f) = true := by
  refine isRel_of (fun p hp => ?_) (prs_asc f m)
  obtain ⟨x, y, hx, hy, rfl⟩ := mem_prs.1 hp
  have := bl_lt (h x) hy
  simp only; omega
theorem relF_prs {m : Nat} {f : Nat → Nat} (h : ∀ i, f i < 64) (h0 : ∀ i, m ≤ i → f i = 0) : relF (prs m f) = f := by
  funext x
  refine Nat.eq_of_testBit_eq fun y => ?_
  rw [relF_test, Bool.eq_iff_iff]
  simp only [List.any_eq_true, Bool.and_eq_true, decide_eq_true_eq]
  constructor
  · rintro ⟨p, hp, h1, h2⟩
    obtain ⟨a, b, ha, hb, rfl⟩ := mem_prs.1 hp
    have e1 : a = x := by simpa using h1
    have e2 : b = y := by simpa using h2
    subst e1; subst e2
    exact (mem_bl.1 hb).2
  · intro hy
    have hx : x < m := by
      rcases Nat.lt_or_ge x m with h1 | h1
      · exact h1
      · rw [h0 x h1] at hy; simp at hy
    exact ⟨((x : Int), (y : Int)), mem_prs.2 ⟨x, y, hx, mem_bl.2 ⟨mem_lt6 h hy, hy⟩, rfl⟩, by simp, by simp⟩
abbrev cSy : Cod (Int × List D) := cG (lc (cI .i64) (l1 (cL 3)))
def eSy (s : Int × List St3) : D := .agg [.int .i64 s.1, .list 3 (eSt s.2)]
def okSy (s : Int × List St3) : Bool := !decide ((100 : Int) < s.2.length) && vSys s.1 s.2
theorem R42_eq (ss : List (Int × List St3)) (hs : ss.length < Lg) (hl : ∀ s ∈ ss, s.2.length < Lg) : R42 Ar.std (ss.map eSy) = some (ss.all okSy) := by
  have key := iter_any (step := R42L0 Ar.std (ss.map eSy)) ss (fun s => !okSy s) (.inr ()) (.inl ()) (fun i s hi hlt => by
    have hget : gt Ar.std cSy (ss.map eSy) (i : Int) = some (s.1, eSt s.2) := by
      rw [gt_at hi]; rfl
    have hz : Ar.std.zlt (i : Int) (Ar.std.len (ss.map eSy)) = true := by rw [std_len, List.length_map]; exact ltN hlt
    unfold R42L0
    rw [hz, cond_true, hget, bsome]
    dsimp only
    rw [R16_eq, bsome, R34_eq s.1 s.2 (hl s (List.mem_of_getElem? hi)), bsome, inc hlt hs]
    unfold okSy
    cases decide ((100 : Int) < s.2.length) <;> cases vSys s.1 s.2 <;> rfl) (by
    unfold R42L0
    rw [std_len, List.length_map, geN, cond_false])
  unfold R42
  rw [key, bsome, any_notB]
  cases ss.all okSy <;> rfl
theorem quiet_sub (m : Nat) (l : List St3) (s : Nat) : Wi s (quietN m l s) := by rw [quietN_nat]; exact hids_sub l m s
theorem and_ne {a b z : Nat} (ha : a.testBit z = true) (hb : b.testBit z = true) : a &&& b ≠ 0 := by
  intro h
  have : (a &&& b).testBit z = true := by rw [Nat.testBit_and, ha, hb]; rfl
  rw [h] at this; simp at this
theorem isPr_best {m m' : Nat} {l l' : List St3} (S : Sys m l) (S' : Sys m' l') {f : Nat → Nat} (hB : ∀ i, f i < 2 ^ m') (h0 : ∀ i, m ≤ i → f i = 0) (hp : isPf (keepN l m' l') m f) : isRel m m' (prs m f) = true ∧ (prs m f).all (keepP l m' l' (relF (prs m f))) = true := by
  refine ⟨prs_rel hB, ?_⟩
  rw [relF_prs (lt2 S'.le hB) h0, List.all_eq_true]
  intro p hpp
  obtain ⟨x, y, hx, hy, rfl⟩ := mem_prs.1 hpp
  unfold keepP
  rw [Int.toNat_natCast, Int.toNat_natCast]
  exact hp x hx y hy
end Go.Am

set_option maxRecDepth 100000
set_option linter.unusedVariables false
set_option linter.unusedSimpArgs false
set_option linter.unusedSectionVars false
namespace Go.Am
open Go
theorem and2 {x y : Bool} (h : (x && y) = true) : x = true ∧ y = true := by cases x <;> cases y <;> first | exact ⟨rfl, rfl⟩ | cases h
theorem okSy_v {s : Int × List St3} (h : okSy s = true) : vSys s.1 s.2 = true := (and2 h).2
theorem isPr_ok {n n' : Int} {l l' : List St3} {m m' : Nat} (S : Sys m l) (S' : Sys m' l') (hn : n = m) (hn' : n' = m') (hv : vSys n l = true) (hv' : vSys n' l' = true) {f : Nat → Nat} (hB : ∀ i, f i < 2 ^ m') (h0 : ∀ i, m ≤ i → f i = 0) (hp : isPf (keepN l m' l') m f) :
    isPr n l n' l' (prs m f) = (true, 0) := by
  subst hn; subst hn'
  have h := isPr_best S S' hB h0 hp
  unfold isPr
  rw [hv, hv', Bool.and_self, cond_true, Int.toNat_natCast, Int.toNat_natCast, h.1, cond_true, h.2]
end Go.Am

set_option maxRecDepth 100000
set_option linter.unusedVariables false
set_option linter.unusedSimpArgs false
set_option linter.unusedSectionVars false
namespace Go.Am
open Go
theorem comesN_mono {n : Int} {l : List St3} {a b : Nat} (lab : Int) (h : Wi a b) : Wi (comesN n l a lab) (comesN n l b lab) := by
  unfold Wi at h ⊢
  rw [← comesN_or, h]
theorem quiet_quiet {m : Nat} {l : List St3} (S : Sys m l) {s : Nat} (hs : s < 2 ^ m) : quietN m l (quietN m l s) = quietN m l s := by
  rw [quietN_nat, quietN_nat]
  exact hids_of_fix (hids_fix S.sb hs) m
theorem bit_in {s y : Nat} (h : s.testBit y = true) : Wi (2 ^ y) s := by
  refine Nat.eq_of_testBit_eq fun z => ?_
  rw [Nat.testBit_or, Nat.testBit_two_pow]
  by_cases hz : y = z
  · subst hz; rw [h]; simp
  · rw [decide_eq_false hz]; rfl
def Cov (g : Nat → Nat) (s t : Nat) : Prop := ∀ y, s.testBit y = true → ∃ w, t.testBit w = true ∧ mem2 g y w
theorem Cov.mono {g : Nat → Nat} {s t u : Nat} (h : Cov g s t) (hu : Wi t u) : Cov g s u := fun y hy => by
  obtain ⟨w, h1, h2⟩ := h y hy
  exact ⟨w, hu.test h1, h2⟩
theorem Cov.or {g : Nat → Nat} {a b t : Nat} (h : Cov g a t) (h' : Cov g b t) : Cov g (a ||| b) t := fun y hy => by
  rw [Nat.testBit_or, Bool.or_eq_true] at hy
  rcases hy with h1 | h1
  · exact h y h1
  · exact h' y h1
section
variable {m m' : Nat} {l l' : List St3} (S : Sys m l) (S' : Sys m' l') {g : Nat → Nat} (hg : ∀ x y, mem2 g x y → keepN l m' l' g x y = true)
include S S' hg
theorem cov_step {s t : Nat} (h : Cov g s t) (lab : Int) : Cov g (stepN l s lab) (comesN m' l' t lab) := fun y hy => by
  rw [stepN_test, List.any_eq_true] at hy
  obtain ⟨z, hz, h1⟩ := hy
  simp only [goes, Bool.and_eq_true, decide_eq_true_eq] at h1
  obtain ⟨⟨h1, h2⟩, h3⟩ := h1
  have hok := S.ok.2 z hz
  obtain ⟨w, hw1, hw2⟩ := h _ h2
  have hk := keep_ne (hg z.1.toNat w hw2) hz (by omega : z.1 = ((z.1.toNat : Nat) : Int))
  obtain ⟨b, hb⟩ := Nat.exists_testBit_of_ne_zero hk
  rw [Nat.testBit_and, Bool.and_eq_true, h1] at hb
  refine ⟨b, (comesN_mono lab (bit_in hw1)).test hb.2, ?_⟩
  rw [← h3]; exact hb.1
theorem cov_hids {t : Nat} (ht : quietN m' l' t = t) : ∀ (k s : Nat), Cov g s t → Cov g (hids l k s) t
  | 0, s, h => h
  | k + 1, s, h => by
    refine cov_hids ht k (hid l s) ?_
    refine h.or ?_
    have := cov_step S S' hg h 0
    unfold comesN at this
    rw [decide_eq_true rfl, cond_true, ht] at this
    exact this
theorem cov_quiet {s t : Nat} (ht : t < 2 ^ m') (h : Cov g s t) : Cov g (quietN m l s) (quietN m' l' t) := by
  rw [quietN_nat m l]
  exact cov_hids S S' hg (quiet_quiet S' ht) m s (h.mono (quiet_sub m' l' t))
theorem cov_comes {s t : Nat} (ht : t < 2 ^ m') (h : Cov g s t) (lab : Int) : Cov g (comesN m l s lab) (comesN m' l' t lab) := by
  have h1 := cov_quiet S S' hg ht h
  unfold comesN
  by_cases h0 : lab = 0
  · rw [decide_eq_true h0, cond_true, cond_true]; exact h1
  · rw [decide_eq_false h0, cond_false, cond_false]
    have hq : quietN m' l' t < 2 ^ m' := quietN_ltB S'.sb ht
    have h2 := cov_step S S' hg h1 lab
    unfold comesN at h2
    rw [decide_eq_false h0, cond_false, quiet_quiet S' ht] at h2
    have h3 := cov_quiet S S' hg (quietN_ltB S'.sb (stepN_ltB S'.sb _ _)) h2
    rw [quiet_quiet S' (stepN_ltB S'.sb _ _)] at h3
    exact h3
end
theorem best_all {m m' : Nat} {l l' : List St3} (S : Sys m l) (S' : Sys m' l') : ∀ x y, mem2 (bestF m l m' l') x y → keepN l m' l' (bestF m l m' l') x y = true := fun x y h => by
  have hx : x < m := by
    rcases Nat.lt_or_ge x m with h1 | h1
    · exact h1
    · unfold mem2 at h
      rw [bestF_out (l := l) (m' := m') (l' := l') S.le h1] at h; simp at h
  exact bestF_pf S S' x hx y (mem_bl.2 ⟨mem_lt6 (lt2 S'.le bestF_inB) h, h⟩)
theorem comp_mem {f g : Nat → Nat} (hf : ∀ i, f i < 64) {x w : Nat} : mem2 (compF f g) x w ↔ ∃ y, mem2 f x y ∧ mem2 g y w := by
  unfold mem2
  rw [compF_test, List.any_eq_true]
  constructor
  · rintro ⟨y, _, h⟩
    rw [Bool.and_eq_true] at h
    exact ⟨y, h.1, h.2⟩
  · rintro ⟨y, h1, h2⟩
    exact ⟨y, List.mem_range.2 (mem_lt6 hf h1), by rw [Bool.and_eq_true]; exact ⟨h1, h2⟩⟩
theorem comp_pf {m m' m2 : Nat} {l l' l2 : List St3} (S' : Sys m' l') (S2 : Sys m2 l2) {f g : Nat → Nat} (hf6 : ∀ i, f i < 64) (hgB : ∀ i, g i < 2 ^ m2)
    (hf : ∀ x y, mem2 f x y → keepN l m' l' f x y = true) (hg : ∀ x y, mem2 g x y → keepN l' m2 l2 g x y = true) : ∀ x y, mem2 (compF f g) x y → keepN l m2 l2 (compF f g) x y = true := fun x w h => by
  obtain ⟨y, h1, h2⟩ := (comp_mem hf6).1 h
  rw [keep_iff]
  intro z hz hz1
  have hk := keep_ne (hf x y h1) hz hz1
  obtain ⟨y', hy'⟩ := Nat.exists_testBit_of_ne_zero hk
  rw [Nat.testBit_and, Bool.and_eq_true] at hy'
  have hw : w < m2 := by
    rcases Nat.lt_or_ge w m2 with h3 | h3
    · exact h3
    · have hb := hgB y
      unfold mem2 at h2
      rw [Nat.testBit_lt_two_pow (Nat.lt_of_lt_of_le hb (Nat.pow_le_pow_right (by decide) h3))] at h2; cases h2
  have hc : Cov g (2 ^ y) (2 ^ w) := fun a ha => by
    rw [Nat.testBit_two_pow] at ha
    have := of_decide_eq_true ha
    subst this
    exact ⟨w, by rw [Nat.testBit_two_pow]; exact decide_eq_true rfl, h2⟩
  obtain ⟨w', hw1, hw2⟩ := cov_comes S' S2 hg (Nat.pow_lt_pow_right (by decide) hw) hc z.2.1 y' hy'.2
  exact and_ne ((comp_mem hf6).2 ⟨y', hy'.1, hw2⟩) hw1
end Go.Am

set_option maxRecDepth 100000
set_option linter.unusedVariables false
set_option linter.unusedSimpArgs false
set_option linter.unusedSectionVars false
namespace Go.Am
open Go
theorem prs_rel6 {m : Nat} {f : Nat → Nat} (hm : m ≤ 6) (h : ∀ i, f i < 64) : isRel 6 6 (prs m f) = true := by
  refine isRel_of (fun p hp => ?_) (prs_asc f m)
  obtain ⟨x, y, hx, hy, rfl⟩ := mem_prs.1 hp
  have := (mem_bl.1 hy).1
  simp only; omega
theorem bst_of {n n' : Int} {l l' : List St3} {m m' : Nat} (hn : n = m) (hn' : n' = m') (hv : vSys n l = true) (hv' : vSys n' l' = true) : bst n l n' l' = (prs m (bestF m l m' l'), 0) := by
  subst hn; subst hn'
  unfold bst
  rw [hv, hv', Bool.and_self, cond_true, Int.toNat_natCast, Int.toNat_natCast]
theorem rfn_of {n n' : Int} {l l' : List St3} {m m' : Nat} (hn : n = m) (hn' : n' = m') (hv : vSys n l = true) (hv' : vSys n' l' = true) : rfn n l n' l' = ((bestF m l m' l' 0).testBit 0, 0) := by
  subst hn; subst hn'
  unfold rfn
  rw [hv, hv', Bool.and_self, cond_true, Int.toNat_natCast, Int.toNat_natCast]
theorem prs_Lg {m : Nat} (hm : m ≤ 6) (f : Nat → Nat) : (prs m f).length < Lg := small_P (n := 36) (by have := prs_len m f; omega) (by decide)
theorem comp_out {m : Nat} {f g : Nat → Nat} (h : ∀ i, m ≤ i → f i = 0) (i : Nat) (hi : m ≤ i) : compF f g i = 0 := by
  unfold compF
  rw [h i hi, bl_zero]; rfl
theorem comp_ltB {m : Nat} {f g : Nat → Nat} (h : ∀ i, g i < 2 ^ m) (i : Nat) : compF f g i < 2 ^ m := orAll_lt fun j _ => h j
theorem sub_all {m m' : Nat} {f : Nat → Nat} (h : ∀ i, m ≤ i → f i = 0) (hB : ∀ i, f i < 2 ^ m') : subF f (allF m m') := subF_of fun x y hxy => by
  have hx : x < m := by
    rcases Nat.lt_or_ge x m with h1 | h1
    · exact h1
    · unfold mem2 at hxy
      rw [h x h1] at hxy; simp at hxy
  have hy : y < m' := by
    rcases Nat.lt_or_ge y m' with h1 | h1
    · exact h1
    · unfold mem2 at hxy
      rw [Nat.testBit_lt_two_pow (Nat.lt_of_lt_of_le (hB x) (Nat.pow_le_pow_right (by decide) h1))] at hxy; cases hxy
  unfold mem2 allF
  rw [if_pos hx, Nat.testBit_two_pow_sub_one]; exact decide_eq_true hy
theorem ref_of {m m' : Nat} {l l' : List St3} (S : Sys m l) (S' : Sys m' l') {f : Nat → Nat} (h : ∀ i, m ≤ i → f i = 0) (hB : ∀ i, f i < 2 ^ m') (hp : ∀ x y, mem2 f x y → keepN l m' l' f x y = true) (h0 : mem2 f 0 0) : mem2 (bestF m l m' l') 0 0 :=
  subF_mem (bestF_max S S' (fun x _ y hy => hp x y (mem_bl.1 hy).2) (sub_all h hB)) h0
theorem cmpd_best {m m' m2 : Nat} {l l' l2 : List St3} (S : Sys m l) (S' : Sys m' l') (S2 : Sys m2 l2) :
    cmpd (prs m (bestF m l m' l')) (prs m' (bestF m' l' m2 l2)) = (prs m (compF (bestF m l m' l') (bestF m' l' m2 l2)), 0) := by
  have hm := S.le
  have r1 := prs_rel6 S.le (lt2 S'.le (bestF_inB (m := m) (l := l) (m' := m') (l' := l')))
  have r2 := prs_rel6 S'.le (lt2 S2.le (bestF_inB (m := m') (l := l') (m' := m2) (l' := l2)))
  unfold cmpd
  rw [r1, r2, Bool.and_self, cond_true, relF_prs (lt2 S'.le bestF_inB) (fun i hi => bestF_out S.le hi), relF_prs (lt2 S2.le bestF_inB) (fun i hi => bestF_out S'.le hi)]
  have hp := prs_zero (n := m) (f := compF (bestF m l m' l') (bestF m' l' m2 l2)) (comp_out fun i hi => bestF_out S.le hi) (6 - m)
  rw [show m + (6 - m) = 6 from by omega] at hp
  rw [hp]
theorem R11_ok (n n' n2 : Int) (l l' l2 : List St3) (hl : l.length < Lg) (hl' : l'.length < Lg) (hl2 : l2.length < Lg) : R11 Ar.std n (eSt l) n' (eSt l') n2 (eSt l2) = some true := by
  have h42 := R42_eq [(n, l), (n', l'), (n2, l2)] (by show 3 < 9223372036854775808; decide) (fun s hs => by
    rcases List.mem_cons.1 hs with rfl | hs
    · exact hl
    · rcases List.mem_cons.1 hs with rfl | hs
      · exact hl'
      · rw [List.mem_singleton] at hs; subst hs; exact hl2)
  have h42' : R42 Ar.std [.agg [.int .i64 n, .list 3 (eSt l)], .agg [.int .i64 n', .list 3 (eSt l')], .agg [.int .i64 n2, .list 3 (eSt l2)]] = some (okSy (n, l) && (okSy (n', l') && okSy (n2, l2))) := by
    have e : [(n, l), (n', l'), (n2, l2)].all okSy = (okSy (n, l) && (okSy (n', l') && okSy (n2, l2))) := by simp only [List.all_cons, List.all_nil, Bool.and_true]
    rw [e] at h42; exact h42
  unfold R11
  rw [h42', bsome]
  cases hv0 : (okSy (n, l) && (okSy (n', l') && okSy (n2, l2))) with
  | false => rw [cond_false, R17_eq]; rfl
  | true =>
    obtain ⟨hv, hv1⟩ := and2 hv0
    obtain ⟨hv', hv2⟩ := and2 hv1
    have hv : vSys n l = true := okSy_v hv
    have hv' : vSys n' l' = true := okSy_v hv'
    have hv2 : vSys n2 l2 = true := okSy_v hv2
    obtain ⟨m, hnm, S⟩ := Sys.of hv
    obtain ⟨m', hnm', S'⟩ := Sys.of hv'
    obtain ⟨m2, hnm2, S2⟩ := Sys.of hv2
    have h47 := R47_eq n n' l l' hl hl'
    rw [bst_of hnm hnm' hv hv'] at h47
    have h47' := R47_eq n' n2 l' l2 hl' hl2
    rw [bst_of hnm' hnm2 hv' hv2] at h47'
    have h39 := R39_eq (prs m (bestF m l m' l')) (prs m' (bestF m' l' m2 l2)) (prs_Lg S.le _) (prs_Lg S'.le _)
    rw [cmpd_best S S' S2] at h39
    have hpf := comp_pf (m := m) S' S2 (lt2 S'.le bestF_inB) (bestF_inB (m := m') (l := l') (m' := m2) (l' := l2)) (best_all S S') (best_all S' S2)
    have ho := comp_out (g := bestF m' l' m2 l2) fun i hi => bestF_out (m' := m') (l := l) (l' := l') S.le hi
    have hB := comp_ltB (f := bestF m l m' l') (bestF_inB (m := m') (l := l') (m' := m2) (l' := l2))
    have h49 := R49_eq n n2 l l2 hl hl2 _ (prs_Lg S.le (compF (bestF m l m' l') (bestF m' l' m2 l2)))
    rw [isPr_ok S S2 hnm hnm2 hv hv2 hB ho (fun x hx y hy => hpf x y (mem_bl.1 hy).2)] at h49
    have a1 := R44_eq n n' l l' hl hl'
    rw [rfn_of hnm hnm' hv hv'] at a1
    have a2 := R44_eq n' n2 l' l2 hl' hl2
    rw [rfn_of hnm' hnm2 hv' hv2] at a2
    have a3 := R44_eq n n2 l l2 hl hl2
    rw [rfn_of hnm hnm2 hv hv2] at a3
    rw [cond_true, h47, bsome]
    dsimp only
    rw [h47', bsome]
    dsimp only
    rw [h39, bsome]
    dsimp only
    rw [h49, bsome]
    dsimp only
    rw [zeqS, cond_true, cond_true, cond_true, cond_true, Bool.not_true, bsome, cond_false, a1, bsome]
    dsimp only
    rw [a2, bsome]
    dsimp only
    rw [a3, bsome]
    dsimp only
    rw [zeqS, cond_true, cond_true, cond_true]
    cases b1 : (bestF m l m' l' 0).testBit 0 with
    | false => rw [cond_false, R17_eq]; rfl
    | true =>
      cases b2 : (bestF m' l' m2 l2 0).testBit 0 with
      | false => rw [cond_true, cond_false, R17_eq]; rfl
      | true =>
        have h0 : mem2 (compF (bestF m l m' l') (bestF m' l' m2 l2)) 0 0 := (comp_mem (lt2 S'.le bestF_inB)).2 ⟨0, b1, b2⟩
        have b3 : (bestF m l m2 l2 0).testBit 0 = true := ref_of S S2 ho hB hpf h0
        rw [b3, cond_true, cond_true, cond_true, R17_eq]; rfl
end Go.Am
