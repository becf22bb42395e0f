/- Own text: RL47. -/
import Derived.Test.YtcnplegmmmobcaaRL36
set_option maxRecDepth 100000
set_option linter.unusedVariables false
set_option linter.unusedSimpArgs false
set_option linter.unusedSectionVars false
namespace Go.Am
open Go
theorem prevW {i : Nat} (h : 0 < i) (h2 : i < Lg) : Ar.std.wrp .i64 (Ar.std.zsub (i : Int) 1) = ((i - 1 : Nat) : Int) := by
  have h2' : i < 9223372036854775808 := h2
  rw [std_wrp, std_zsub, wrapS (by omega) (by omega)]; omega
theorem btw_lo {a : Int} {m : Nat} (h : btw 0 a ((m : Int) - 1) = true) : 0 ≤ a ∧ a.toNat < m := by
  simp only [btw, Bool.and_eq_true, decide_eq_true_eq] at h; omega
theorem badR_ok {m n : Nat} {r : List P2} {i : Nat} {p : P2} (h : r[i]? = some p) (hb : badR m n r i = false) : (0 ≤ p.1 ∧ p.1.toNat < m) ∧ (0 ≤ p.2 ∧ p.2.toNat < n) := by
  rw [badR_get h] at hb
  simp only [Bool.or_eq_false_iff, Bool.not_eq_false', Bool.and_eq_true] at hb
  exact ⟨btw_lo hb.1.1, btw_lo hb.1.2⟩
theorem isRel_ok {m n : Nat} {r : List P2} (h : isRel m n r = true) : ∀ p ∈ r, (0 ≤ p.1 ∧ p.1.toNat < m) ∧ (0 ≤ p.2 ∧ p.2.toNat < n) := by
  intro p hp
  obtain ⟨i, hi, rfl⟩ := List.getElem_of_mem hp
  refine badR_ok (List.getElem?_eq_getElem hi) ?_
  unfold isRel at h
  rw [Bool.not_eq_true'] at h
  rw [Bool.eq_false_iff]
  intro hb
  rw [Bool.eq_false_iff] at h
  exact h (List.any_eq_true.2 ⟨i, List.mem_range.2 hi, hb⟩)
theorem R85_eq {m n : Nat} (hm : 1 ≤ m ∧ m ≤ 6) (hn : 1 ≤ n ∧ n ≤ 6) (r : List P2) (hr : r.length < Lg) : ∃ f, R85 Ar.std (ePr r) (m : Int) (n : Int) = some (rU f, isRel m n r) ∧ (isRel m n r = true → f = relF r) := by
  have w1 : Ar.std.wrp .i64 (Ar.std.zsub (m : Int) 1) = (m : Int) - 1 := by rw [std_wrp, std_zsub, wrapS (by omega) (by omega)]
  have w2 : Ar.std.wrp .i64 (Ar.std.zsub (n : Int) 1) = (n : Int) - 1 := by rw [std_wrp, std_zsub, wrapS (by omega) (by omega)]
  have hB : ∀ i, i < r.length → (∀ j, j < i → badR m n r j = false) → ∀ p ∈ r.take i, (0 ≤ p.1 ∧ p.1.toNat < m) ∧ (0 ≤ p.2 ∧ p.2.toNat < n) := fun i hi hj p hp => by
    obtain ⟨j, hjl, rfl⟩ := List.getElem_of_mem hp
    rw [List.length_take] at hjl
    rw [List.getElem_take]
    exact badR_ok (List.getElem?_eq_getElem (by omega)) (hj j (by omega))
  have key := iter_stopP (step := R85L0 Ar.std (ePr r) (m : Int) (n : Int)) r.length (fun i => ((i : Int), rU (relF (r.take i)))) (badR m n r) (rU (relF r)) (fun z => ∃ f, z = (rU f, rU f, rU f)) (fun i hi hj => by
    have hp := List.getElem?_eq_getElem hi
    have hlo := hB i hi hj
    have h64 := relF_lt (r := r.take i) fun p hp => by have := (hlo p hp).2.2; omega
    generalize r[i] = p at hp
    have hget : gt Ar.std cP (ePr r) (i : Int) = some p := gt_enc hp
    have hi' : i < 9223372036854775808 := Nat.lt_trans hi hr
    have hbad : ((R65 Ar.std 0 p.1 ((m : Int) - 1)).bind fun r57 => bif r57 then (R65 Ar.std 0 p.2 ((n : Int) - 1)).bind fun r60 => bif r60 then bif (Ar.std.zlt 0 (i : Int)) then
        (gt Ar.std cP (ePr r) (Ar.std.wrp .i64 (Ar.std.zsub (i : Int) 1))).bind fun x => (R108 Ar.std x.1 x.2 p.1 p.2).bind fun r69 => some (Ar.std.zle 0 r69) else some false else some true else some true) = some (badR m n r i) := by
      rw [badR_get hp, R65_eq, bsome, R65_eq, bsome, std_zlt]
      cases btw 0 p.1 ((m : Int) - 1) with
      | false => rfl
      | true =>
        cases btw 0 p.2 ((n : Int) - 1) with
        | false => rfl
        | true =>
          rw [cond_true, cond_true]
          rcases Nat.eq_zero_or_pos i with h0 | h0
          · subst h0; rfl
          · rw [decide_eq_true (by omega : (0 : Int) < (i : Int)), cond_true, prevW h0 (by omega : i < 9223372036854775808)]
            have hq := List.getElem?_eq_getElem (l := r) (i := i - 1) (by omega)
            generalize r[i - 1] = q at hq
            have hget' : gt Ar.std cP (ePr r) ((i - 1 : Nat) : Int) = some q := gt_enc hq
            obtain ⟨s, e1, e2⟩ := R108_some q p
            rw [hget', bsome, e1, bsome, e2, hq, Option.map_some, Option.getD_some, decide_eq_true h0]; rfl
    have hbad' : ((R65 Ar.std 0 p.1 ((m : Int) - 1)).bind fun r57 => bif r57 then (R65 Ar.std 0 p.2 ((n : Int) - 1)).bind fun r60 => bif r60 then bif (Ar.std.zlt 0 (i : Int)) then
        (gt Ar.std cP (ePr r) (Ar.std.wrp .i64 (Ar.std.zsub (i : Int) 1))).bind fun (a63, a64) => (R108 Ar.std a63 a64 p.1 p.2).bind fun r69 => some (Ar.std.zle 0 r69) else some false else some true else some true) = some (badR m n r i) := hbad
    have hstep : R85L0 Ar.std (ePr r) (m : Int) (n : Int) ((i : Int), rU (relF (r.take i))) = bif badR m n r i then some (.inr (.inr (rU (relF (r.take i)), rU (relF (r.take i)), rU (relF (r.take i))))) else
        (ck (Ar.std.zle 0 p.1)).bind fun _ => (ck (Ar.std.zlt p.1 (Int.ofNat 6))).bind fun _ => (gc Ar.std (cI .u8) (rU (relF (r.take i))) (Ar.std.nat (Ar.std.zadd 0 (Ar.std.zmul p.1 (Int.ofNat 1))))).bind fun a90 =>
        (nk (Ar.std.zlt p.2 0)).bind fun _ => (ck (Ar.std.zle 0 p.1)).bind fun _ => (ck (Ar.std.zlt p.1 (Int.ofNat 6))).bind fun _ => (Ar.std.lget (rU (relF (r.take i))) (Ar.std.nat (Ar.std.zadd 0 (Ar.std.zmul p.1 (Int.ofNat 1))))).bind fun d99 =>
        some (.inl ((Ar.std.wrp .i64 (Ar.std.zadd (i : Int) 1)), (Ar.std.lset (rU (relF (r.take i))) (Ar.std.nat (Ar.std.zadd 0 (Ar.std.zmul p.1 (Int.ofNat 1)))) (.int .u8 (Ar.std.bits .or .u8 a90 (Ar.std.shl .u8 1 p.2)))))) := by
      unfold R85L0
      dsimp only
      rw [ltS hi, cond_true, hget, bsome]
      rw [w1, w2, hbad', bsome, rU_ga, bsome, rU_len, bsome, rU_room, bsome, rU_spl, rU_len, bsome, rU_ones, bsome]
    refine ⟨fun hb => ?_, fun hb => ⟨_, ⟨_, rfl⟩, by rw [hstep, hb, cond_true]⟩⟩
    have hok := badR_ok hp hb
    rw [hb, cond_false] at hstep
    obtain ⟨a, ha⟩ : ∃ a : Nat, p.1 = (a : Int) := ⟨p.1.toNat, by omega⟩
    obtain ⟨b, hb'⟩ : ∃ b : Nat, p.2 = (b : Int) := ⟨p.2.toNat, by omega⟩
    have ha6 : a < 6 := by omega
    have hb6 : b < 6 := by omega
    rw [hstep, ha, hb', ckN, bsome, ckL ha6, bsome, ix1, rU_gc _ ha6, bsome, nkN, bsome, bsome, bsome, rU_lget _ ha6, bsome, shlS (by omega), orS (h64 a) (pow6 hb6), rU_lset, inc hi hr, take_succ_get hp, relF_snoc]
    unfold putP
    rw [ha, hb']; rfl) (fun _ => by
    unfold R85L0
    dsimp only
    rw [geS, cond_false, List.take_length])
  have e0 : (((0 : Nat) : Int)) = 0 := rfl
  rw [e0, List.take_zero] at key
  have e1 : rU (relF []) = rU fun _ => 0 := rfl
  rw [e1] at key
  unfold R85 isRel
  rw [rU_rep]
  rcases key with ⟨h1, _, h3⟩ | ⟨h1, z, ⟨f, rfl⟩, h3⟩
  · refine ⟨relF r, ?_, fun _ => rfl⟩
    rw [h3, bsome, h1, Sum.elim_inl, rU_ga, bsome, rU_len, bsome, ← rU_rep, rU_room, bsome, rU_spl, rU_len, bsome, rU_ones, bsome]; rfl
  · refine ⟨f, ?_, fun h => ?_⟩
    · rw [h3, bsome, h1]; rfl
    · rw [h1] at h; cases h
theorem R87_eq {m n : Nat} (r : List P2) (hr : r.length < Lg) : R87 Ar.std (ePr r) (m : Int) (n : Int) = some (isRel m n r) := by
  have key := iter_stopP (step := R87L0 Ar.std (ePr r) (m : Int) (n : Int)) r.length (fun i => (i : Int)) (badR m n r) () (fun _ => True) (fun i hi hj => by
    have hp := List.getElem?_eq_getElem hi
    generalize r[i] = p at hp
    have hget : gt Ar.std cP (ePr r) (i : Int) = some p := gt_enc hp
    have hi' : i < 9223372036854775808 := Nat.lt_trans hi hr
    have h1 : (bif Ar.std.zlt p.1 0 then some true else bif Ar.std.zle (m : Int) p.1 then some true else bif Ar.std.zlt p.2 0 then some true else some (Ar.std.zle (n : Int) p.2)) = some (!(btw 0 p.1 ((m : Int) - 1) && btw 0 p.2 ((n : Int) - 1))) := by
      rw [std_zlt, std_zle, std_zlt, std_zle]
      unfold btw
      rw [show decide (p.1 < 0) = !decide (0 ≤ p.1) from by rw [← decide_not]; exact decide_eq_decide.2 (by omega), show decide ((m : Int) ≤ p.1) = !decide (p.1 ≤ (m : Int) - 1) from by rw [← decide_not]; exact decide_eq_decide.2 (by omega),
        show decide (p.2 < 0) = !decide (0 ≤ p.2) from by rw [← decide_not]; exact decide_eq_decide.2 (by omega), show decide ((n : Int) ≤ p.2) = !decide (p.2 ≤ (n : Int) - 1) from by rw [← decide_not]; exact decide_eq_decide.2 (by omega)]
      cases decide (0 ≤ p.1) <;> cases decide (p.1 ≤ (m : Int) - 1) <;> cases decide (0 ≤ p.2) <;> cases decide (p.2 ≤ (n : Int) - 1) <;> rfl
    have h2 : (bif Ar.std.zlt 0 (i : Int) then (gt Ar.std cP (ePr r) (Ar.std.wrp .i64 (Ar.std.zsub (i : Int) 1))).bind fun x => bif Ar.std.zlt p.1 x.1 then some true else bif Ar.std.zeq p.1 x.1 then some (Ar.std.zle p.2 x.2) else some false else some false) = some (decide (0 < i) && !((r[i - 1]?.map fun q => lessP q p).getD true)) := by
      rcases Nat.eq_zero_or_pos i with h0 | h0
      · subst h0; rfl
      · rw [std_zlt, decide_eq_true (by omega : (0 : Int) < (i : Int)), cond_true, prevW h0 (by omega : i < 9223372036854775808)]
        have hq := List.getElem?_eq_getElem (l := r) (i := i - 1) (by omega)
        generalize r[i - 1] = q at hq
        have hget' : gt Ar.std cP (ePr r) ((i - 1 : Nat) : Int) = some q := gt_enc hq
        rw [hget', bsome, hq, Option.map_some, Option.getD_some, decide_eq_true h0, std_zlt, std_zeq, std_zle]
        unfold lessP
        by_cases k : p.1 < q.1
        · rw [decide_eq_true k, decide_eq_false (by omega : ¬ q.1 < p.1), decide_eq_false (by omega : ¬ q.1 = p.1)]; rfl
        · by_cases k2 : p.1 = q.1
          · rw [decide_eq_false k, decide_eq_true k2, decide_eq_false (by omega : ¬ q.1 < p.1), decide_eq_true k2.symm]
            by_cases k3 : p.2 ≤ q.2
            · rw [decide_eq_true k3, decide_eq_false (by omega : ¬ q.2 < p.2)]; rfl
            · rw [decide_eq_false k3, decide_eq_true (by omega : q.2 < p.2)]; rfl
          · rw [decide_eq_false k, decide_eq_false k2, decide_eq_true (by omega : q.1 < p.1)]; rfl
    have h2' : (bif Ar.std.zlt 0 (i : Int) then (gt Ar.std cP (ePr r) (Ar.std.wrp .i64 (Ar.std.zsub (i : Int) 1))).bind fun (a31, a32) => bif Ar.std.zlt p.1 a31 then some true else bif Ar.std.zeq p.1 a31 then some (Ar.std.zle p.2 a32) else some false else some false) = some (decide (0 < i) && !((r[i - 1]?.map fun q => lessP q p).getD true)) := h2
    have hstep : R87L0 Ar.std (ePr r) (m : Int) (n : Int) (i : Int) = some (bif badR m n r i then .inr (.inr ()) else .inl ((i + 1 : Nat) : Int)) := by
      unfold R87L0
      rw [ltS hi, cond_true, hget, bsome]
      dsimp only
      rw [h1, bsome, h2', badR_get hp, inc hi hr]
      cases (!(btw 0 p.1 ((m : Int) - 1) && btw 0 p.2 ((n : Int) - 1))) with
      | true => rfl
      | false =>
        rw [cond_false, bsome, Bool.false_or]
        cases (decide (0 < i) && !((r[i - 1]?.map fun q => lessP q p).getD true)) <;> rfl
    exact ⟨fun hb => by rw [hstep, hb, cond_false], fun hb => ⟨(), trivial, by rw [hstep, hb, cond_true]⟩⟩) (fun _ => by
    unfold R87L0
    rw [geS, cond_false])
  have e0 : (((0 : Nat) : Int)) = 0 := rfl
  rw [e0] at key
  unfold R87 isRel
  rcases key with ⟨h1, _, h3⟩ | ⟨h1, z, _, h3⟩
  · rw [h3, bsome, h1]; rfl
  · rw [h3, bsome, h1]; rfl
end Go.Am

set_option maxRecDepth 100000
set_option linter.unusedVariables false
set_option linter.unusedSimpArgs false
set_option linter.unusedSectionVars false
namespace Go.Am
open Go
def prs (n : Nat) (f : Nat → Nat) : List P2 := (List.range n).flatMap fun x => (bl (f x)).map fun y : Nat => ((x : Int), (y : Int))
theorem prs_len (n : Nat) (f : Nat → Nat) : (prs n f).length ≤ n * 6 := by
  have := flat_le (fun x => (bl (f x)).map fun y : Nat => ((x : Int), (y : Int))) 6 (List.range n) (fun x _ => by rw [List.length_map]; exact bl_len _)
  rw [List.length_range] at this
  exact this
theorem prs_succ (n : Nat) (f : Nat → Nat) : prs (n + 1) f = prs n f ++ (bl (f n)).map fun y : Nat => ((n : Int), (y : Int)) := by
  unfold prs; rw [List.range_succ, List.flatMap_append, List.flatMap_singleton]
theorem prs_zero {n : Nat} {f : Nat → Nat} (h : ∀ i, n ≤ i → f i = 0) : ∀ k, prs (n + k) f = prs n f
  | 0 => rfl
  | k + 1 => by
    rw [← Nat.add_assoc, prs_succ, prs_zero h k, h _ (by omega), bl_zero]; simp
theorem ap_pr {ls : List P2} (x : P2) (h : ls.length < 4294967295) : ap Ar.std (ePr ls) [.agg [.int .i64 x.1, .int .i64 x.2]] = some (ePr (ls ++ [x])) := ap_enc1 rfl h
theorem R86L0_eq (x : Nat) (s : Nat) (out : List P2) (ho : out.length ≤ 1000) : iter (R86L0 Ar.std (x : Int) (eInt (cNs (bl s)))) (ePr out, 0) = some (ePr (out ++ (bl s).map fun y : Nat => ((x : Int), (y : Int)))) := by
  have hb := bl_len s
  have key := iter_pre (step := R86L0 Ar.std (x : Int) (eInt (cNs (bl s)))) (bl s) (fun pre => out ++ pre.map fun y : Nat => ((x : Int), (y : Int))) (fun S i => (ePr S, (i : Int))) ePr (fun i a ha hi => by
    have hlt : Ar.std.zlt (i : Int) (Ar.std.len (eInt (cNs (bl s)))) = true := by rw [eIc_len]; exact ltN hi
    have hg : gt Ar.std (cI .i64) (eInt (cNs (bl s))) (i : Int) = some (a : Int) := gt_enc (cNs_get ha)
    have hap := ap_pr (ls := out ++ ((bl s).take i).map fun y : Nat => ((x : Int), (y : Int))) ((x : Int), (a : Int)) (by rw [List.length_append, List.length_map, List.length_take]; omega)
    unfold R86L0
    dsimp only
    rw [hlt, cond_true, hg, bsome, hap, bsome, inc (by omega : i < 100) (by decide), List.map_append, List.append_assoc]; rfl) (by
    unfold R86L0
    dsimp only
    rw [show Ar.std.zlt ((bl s).length : Int) (Ar.std.len (eInt (cNs (bl s)))) = false from by rw [eIc_len]; exact geN _, cond_false])
  rw [List.map_nil, List.append_nil] at key
  exact key
theorem R86_eq {f : Nat → Nat} (h : ∀ i, f i < 64) : R86 Ar.std (rU f) = some (ePr (prs 6 f)) := by
  have key := iter_to (step := R86L1 Ar.std (rU f)) 6 (fun i => (ePr (prs i f), (i : Int))) (ePr (prs 6 f)) (fun i hi => by
    have hp := prs_len i f
    unfold R86L1
    dsimp only
    rw [show Ar.std.zlt (i : Int) 6 = true from by rw [std_zlt]; exact decide_eq_true (by omega), cond_true, ckN, bsome, ckL hi, bsome, show Ar.std.nat (i : Int) = i from by rw [std_nat, Int.toNat_natCast], rU_gc _ hi, bsome, R76_eq _ (h i), bsome, R86L0_eq i (f i) _ (by omega), bsome, inc (by omega : i < 100) (by decide), prs_succ]) (by
    unfold R86L1
    dsimp only
    rw [show Ar.std.zlt ((6 : Nat) : Int) 6 = false from rfl, cond_false])
  unfold R86
  rw [rU_len, bsome, rU_ga, bsome]
  have e : iter (R86L1 Ar.std (rU f)) ([], 0) = some (ePr (prs 6 f)) := key
  rw [e]; rfl
def rI (n : Nat) (f : Nat → Nat) : List D := enc (cI .i64) ((List.range n).map fun i => ((f i : Nat) : Int))
theorem rI_get {n : Nat} (f : Nat → Nat) {i : Nat} (h : i < n) : ((List.range n).map fun i => ((f i : Nat) : Int))[i]? = some ((f i : Nat) : Int) := by
  rw [List.getElem?_map, List.getElem?_range h]; rfl
theorem rI_gc {n : Nat} (f : Nat → Nat) {i : Nat} (h : i < n) : gc Ar.std (cI .i64) (rI n f) i = some ((f i : Nat) : Int) := gc_enc (rI_get f h)
theorem rI_gt {n : Nat} (f : Nat → Nat) {i : Nat} (h : i < n) : gt Ar.std (cI .i64) (rI n f) (i : Int) = some ((f i : Nat) : Int) := gt_enc (rI_get f h)
theorem rI_lget {n : Nat} (f : Nat → Nat) {i : Nat} (h : i < n) : Ar.std.lget (rI n f) i = some (.int .i64 ((f i : Nat) : Int)) := by
  show (rI n f)[i]? = _
  unfold rI
  rw [enc_get, rI_get f h]; rfl
theorem rI_lset {n : Nat} (f : Nat → Nat) (k v : Nat) : Ar.std.lset (rI n f) k (.int .i64 (v : Int)) = rI n (upd f k v) := by
  rw [std_lset]
  refine List.ext_getElem? fun j => ?_
  rw [List.getElem?_set]
  have hl : (rI n f).length = n := by simp [rI]
  by_cases hj : j < n
  · have h1 := rI_lget f hj
    have h2 := rI_lget (upd f k v) hj
    rw [std_lget] at h1 h2
    rw [h1, h2, hl]
    by_cases h : k = j
    · subst h
      rw [if_pos rfl, if_pos hj]; simp [upd]
    · rw [if_neg h]
      unfold upd
      rw [if_neg (fun e => h e.symm)]
  · have h2 : (rI n (upd f k v))[j]? = none := by rw [List.getElem?_eq_none_iff]; simp [rI]; omega
    have h1 : (rI n f)[j]? = none := by rw [List.getElem?_eq_none_iff]; omega
    rw [h1, h2, hl]
    by_cases h : k = j
    · rw [if_pos h, if_neg (by omega)]
    · rw [if_neg h]
theorem rI_rep (n : Nat) : Ar.std.rep (n : Int) (.int .i64 0) = rI n (fun _ => 0) := by
  rw [std_rep, Int.toNat_natCast]
  unfold rI enc
  rw [List.map_map]
  refine List.ext_getElem? fun j => ?_
  rw [List.getElem?_replicate, List.getElem?_map]
  by_cases hj : j < n
  · rw [if_pos hj, List.getElem?_range hj]; rfl
  · rw [if_neg hj, List.getElem?_eq_none (by simp; omega)]; rfl
theorem rI_congr {n : Nat} {f g : Nat → Nat} (h : ∀ i, i < n → f i = g i) : rI n f = rI n g := by
  unfold rI
  rw [List.map_congr_left fun i hi => by rw [h i (List.mem_range.1 hi)]]
theorem R88L0_is : R88L0 = R86L0 := rfl
theorem zaddZ (i : Nat) : Ar.std.nat (Ar.std.zadd 0 (i : Int)) = i := nat0 i
theorem R88_eq {n : Nat} (hn : n ≤ 6) {f : Nat → Nat} (h : ∀ i, f i < 64) : R88 Ar.std 0 (n : Int) (rI n f) = some (ePr (prs n f)) := by
  have key := iter_to (step := R88L1 Ar.std 0 (n : Int) (rI n f)) n (fun i => (ePr (prs i f), (i : Int))) (ePr (prs n f)) (fun i hi => by
    have hp := prs_len i f
    unfold R88L1
    dsimp only
    rw [R88L0_is, ltN hi, cond_true, ckN, bsome, ck_true, bsome, zaddZ, rI_gc _ hi, bsome, R78_eq _ (i62 (h i)), bsome, R86L0_eq i (f i) _ (by omega), bsome, inc (by omega : i < 100) (by decide), prs_succ]) (by
    unfold R88L1
    dsimp only
    rw [geN, cond_false])
  unfold R88
  have e : iter (R88L1 Ar.std 0 (n : Int) (rI n f)) ([], 0) = some (ePr (prs n f)) := key
  rw [e]; rfl
theorem deq_pr (x y : P2) : Ar.std.deq [.int .i64 x.1, .int .i64 x.2] [.int .i64 y.1, .int .i64 y.2] = decide (x = y) := by
  obtain ⟨a, b⟩ := x; obtain ⟨a', b'⟩ := y
  rw [std_deq]
  exact decide_eq_decide.2 (by simp)
theorem R41_same (l : List P2) (hl : l.length < Lg) : R41 Ar.std (ePr l) (ePr l) = some true := by
  have key := iter_any (step := R41L0 Ar.std (ePr l) (ePr l)) l (fun _ => false) (.inr ()) (.inl ()) (fun i r hx hi => by
    unfold R41L0
    rw [ltS hi, cond_true, gt_enc hx, bsome]
    dsimp only
    rw [bsome, deq_pr, decide_eq_true rfl, cond_true, inc hi hl]; rfl) (by
    unfold R41L0
    rw [geS, cond_false])
  have hany : (l.any fun _ => false) = false := by simp
  rw [hany] at key
  unfold R41
  rw [zeqS, cond_true, key]; rfl
end Go.Am

set_option maxRecDepth 100000
set_option linter.unusedVariables false
set_option linter.unusedSimpArgs false
set_option linter.unusedSectionVars false
namespace Go.Am
open Go
theorem ckL' {i n : Nat} (h : i < n) : ck (Ar.std.zlt (i : Int) (n : Int)) = some () := ckL h
theorem orI {a b : Nat} (ha : a < 64) (hb : b < 64) : Ar.std.bits .or .i64 (a : Int) (b : Int) = ((a ||| b : Nat) : Int) := by rw [std_bits]; exact or_i64 a b (by omega) (by omega)
theorem shlI {q : Nat} (h : q < 62) : Ar.std.shl .i64 1 (q : Int) = ((2 ^ q : Nat) : Int) := by rw [std_shl]; exact shl_i64 q h
def part (k : Nat) (f : Nat → Nat) (x : Nat) : Nat := if x < k then f x else 0
theorem relF_lt6 {n : Nat} (hn : n ≤ 6) {m : Nat} {r : List P2} (h : isRel m n r = true) : ∀ i, relF r i < 64 := relF_lt fun p hp => by have := isRel_ok h p hp; omega
end Go.Am

set_option maxRecDepth 100000
set_option linter.unusedVariables false
set_option linter.unusedSimpArgs false
set_option linter.unusedSectionVars false
namespace Go.Am
open Go
def itr {α : Type} (f : α → α) : Nat → α → α
  | 0, s => s
  | k + 1, s => itr f k (f s)
theorem itr_succ {α : Type} (f : α → α) : ∀ (k : Nat) (s : α), itr f (k + 1) s = f (itr f k s)
  | 0, s => rfl
  | k + 1, s => by rw [itr, itr_succ f k, ← itr]
theorem itr_fix {α : Type} {f : α → α} {s : α} (h : f s = s) : ∀ k, itr f k s = s
  | 0 => rfl
  | k + 1 => by rw [itr, h]; exact itr_fix h k
def clr (a y : Nat) : Nat := a &&& (63 - 2 ^ y)
theorem clr_all : ∀ (a : Fin 64) (y z : Fin 6), (clr a.val y.val).testBit z.val = (a.val.testBit z.val && !decide (z.val = y.val)) := by decide +kernel
theorem clr_lt (a y : Nat) : clr a y < 64 := Nat.lt_of_le_of_lt Nat.and_le_right (by have := Nat.sub_le 63 (2 ^ y); omega)
theorem high_false {a z : Nat} (h : a < 64) (hz : 6 ≤ z) : a.testBit z = false := Nat.testBit_lt_two_pow (Nat.lt_of_lt_of_le h (Nat.pow_le_pow_right (n := 2) (by decide) hz))
theorem clr_test {a y : Nat} (ha : a < 64) (hy : y < 6) (z : Nat) : (clr a y).testBit z = (a.testBit z && !decide (z = y)) := by
  rcases Nat.lt_or_ge z 6 with hz | hz
  · exact clr_all ⟨a, ha⟩ ⟨y, hy⟩ ⟨z, hz⟩
  · rw [high_false (clr_lt a y) hz, high_false ha hz]; rfl
theorem andNot_u8 : ∀ (a : Fin 64) (y : Fin 6), bitsStd .andNot .u8 ((a.val : Nat) : Int) ((2 ^ y.val : Nat) : Int) = ((clr a.val y.val : Nat) : Int) := by decide +kernel
theorem andNot_i64 : ∀ (a : Fin 64) (y : Fin 6), bitsStd .andNot .i64 ((a.val : Nat) : Int) ((2 ^ y.val : Nat) : Int) = ((clr a.val y.val : Nat) : Int) := by decide +kernel
theorem card_clr {a y : Nat} (ha : a < 64) (hy : y < 6) (h : a.testBit y = true) : card 6 (clr a y) < card 6 a := by
  unfold card
  refine countP_lt (fun z hz => ?_) (List.mem_range.2 hy) ?_ h
  · rw [clr_test ha hy] at hz
    simp only [Bool.and_eq_true] at hz
    exact hz.1
  · rw [clr_test ha hy]; simp
def sizeF (f : Nat → Nat) : Nat := card 6 (f 0) + card 6 (f 1) + card 6 (f 2) + card 6 (f 3) + card 6 (f 4) + card 6 (f 5)
theorem size_upd {f : Nat → Nat} {x v : Nat} (hx : x < 6) (h : card 6 v < card 6 (f x)) : sizeF (upd f x v) < sizeF f := by
  unfold sizeF upd
  match x, hx with
  | 0, _ => simp; omega
  | 1, _ => simp; omega
  | 2, _ => simp; omega
  | 3, _ => simp; omega
  | 4, _ => simp; omega
  | 5, _ => simp; omega
theorem sizeF_le (f : Nat → Nat) : sizeF f ≤ 36 := by
  unfold sizeF
  have h := fun i => card_le 6 (f i)
  have := h 0; have := h 1; have := h 2; have := h 3; have := h 4; have := h 5
  omega
section
variable (K : (Nat → Nat) → Nat → Nat → Bool)
def dwc (x : Nat) (f : Nat → Nat) (y : Nat) : Nat → Nat := bif K f x y then f else upd f x (clr (f x) y)
def dwx (f : Nat → Nat) (x : Nat) : Nat → Nat := (bl (f x)).foldl (dwc K x) f
def dws (m : Nat) (f : Nat → Nat) : Nat → Nat := (List.range m).foldl (dwx K) f
def swc (x : Nat) (s : Bool × (Nat → Nat)) (y : Nat) : Bool × (Nat → Nat) := bif K s.2 x y then s else (true, upd s.2 x (clr (s.2 x) y))
def swx (s : Bool × (Nat → Nat)) (x : Nat) : Bool × (Nat → Nat) := (bl (s.2 x)).foldl (swc K x) s
def sws (m : Nat) (f : Nat → Nat) : Bool × (Nat → Nat) := (List.range m).foldl (swx K) (false, f)
variable {K}
theorem swc_snd (x : Nat) (s : Bool × (Nat → Nat)) (y : Nat) : (swc K x s y).2 = dwc K x s.2 y := by
  unfold swc dwc; cases K s.2 x y <;> rfl
theorem foldl_snd {α β γ : Type} {f : α × β → γ → α × β} {g : β → γ → β} (h : ∀ s c, (f s c).2 = g s.2 c) : ∀ (l : List γ) (s : α × β), (l.foldl f s).2 = l.foldl g s.2
  | [], _ => rfl
  | c :: l, s => by rw [List.foldl_cons, List.foldl_cons, foldl_snd h l, h]
theorem swx_snd (s : Bool × (Nat → Nat)) (x : Nat) : (swx K s x).2 = dwx K s.2 x := foldl_snd (fun s y => swc_snd x s y) _ s
theorem sws_snd (m : Nat) (f : Nat → Nat) : (sws K m f).2 = dws K m f := foldl_snd (fun s x => swx_snd s x) _ (false, f)
theorem dwc_lt {x : Nat} {f : Nat → Nat} {y : Nat} (h : ∀ i, f i < 64) (i : Nat) : dwc K x f y i < 64 := by
  unfold dwc
  cases K f x y with
  | true => exact h i
  | false =>
    show upd f x (clr (f x) y) i < 64
    unfold upd; split
    · exact clr_lt _ _
    · exact h i
theorem fold_ltK {γ : Type} {g : (Nat → Nat) → γ → (Nat → Nat)} (hg : ∀ f c, (∀ i, f i < 64) → ∀ i, g f c i < 64) : ∀ (l : List γ) (f : Nat → Nat), (∀ i, f i < 64) → ∀ i, l.foldl g f i < 64
  | [], f, h => h
  | c :: l, f, h => fold_ltK hg l (g f c) (hg f c h)
theorem dwx_lt {f : Nat → Nat} {x : Nat} (h : ∀ i, f i < 64) : ∀ i, dwx K f x i < 64 := fold_ltK (fun f y h => dwc_lt h) _ f h
theorem dws_lt {m : Nat} {f : Nat → Nat} (h : ∀ i, f i < 64) : ∀ i, dws K m f i < 64 := fold_ltK (fun f x h => dwx_lt h) _ f h
structure Ch (s t : Bool × (Nat → Nat)) : Prop where
  no : t.1 = false → s.1 = false ∧ t.2 = s.2
  yes : t.1 = true → s.1 = true ∨ sizeF t.2 < sizeF s.2
  le : sizeF t.2 ≤ sizeF s.2
theorem Ch.refl (s : Bool × (Nat → Nat)) : Ch s s := ⟨fun h => ⟨h, rfl⟩, fun h => .inl h, Nat.le_refl _⟩
theorem Ch.trans {s t u : Bool × (Nat → Nat)} (h : Ch s t) (h' : Ch t u) : Ch s u := by
  refine ⟨fun hu => ?_, fun hu => ?_, Nat.le_trans h'.le h.le⟩
  · obtain ⟨a, b⟩ := h'.no hu
    obtain ⟨c, d⟩ := h.no a
    exact ⟨c, b.trans d⟩
  · rcases h'.yes hu with a | a
    · rcases h.yes a with b | b
      · exact .inl b
      · exact .inr (Nat.lt_of_le_of_lt h'.le b)
    · exact .inr (Nat.lt_of_lt_of_le a h.le)
theorem swc_fold {x : Nat} (hx : x < 6) : ∀ (ys : List Nat) (s : Bool × (Nat → Nat)), ys.Nodup → (∀ i, s.2 i < 64) → (∀ y ∈ ys, y < 6 ∧ (s.2 x).testBit y = true) →
    Ch s (ys.foldl (swc K x) s) ∧ ((ys.foldl (swc K x) s).1 = false → ∀ y ∈ ys, K s.2 x y = true)
  | [], s, _, _, _ => ⟨Ch.refl s, fun _ y hy => by cases hy⟩
  | y :: ys, s, hn, h64, hy => by
    have hn' := List.nodup_cons.1 hn
    have hy0 := hy y (by simp)
    rw [List.foldl_cons]
    unfold swc
    cases hK : K s.2 x y with
    | true =>
      rw [cond_true]
      have ih := swc_fold hx ys s hn'.2 h64 fun z hz => hy z (by simp [hz])
      refine ⟨ih.1, fun h z hz => ?_⟩
      rcases List.mem_cons.1 hz with rfl | hz
      · exact hK
      · exact ih.2 h z hz
    | false =>
      rw [cond_false]
      have ih := swc_fold hx ys (true, upd s.2 x (clr (s.2 x) y)) hn'.2 (fun i => by
        show upd s.2 x (clr (s.2 x) y) i < 64
        unfold upd; split
        · exact clr_lt _ _
        · exact h64 i) (fun z hz => by
        refine ⟨(hy z (by simp [hz])).1, ?_⟩
        show (upd s.2 x (clr (s.2 x) y) x).testBit z = true
        unfold upd
        have hne : ¬ z = y := fun e => hn'.1 (by rw [← e]; exact hz)
        rw [if_pos rfl, clr_test (h64 x) hy0.1, (hy z (by simp [hz])).2, decide_eq_false hne]; rfl)
      have hc : Ch s (true, upd s.2 x (clr (s.2 x) y)) := by
        have := size_upd hx (card_clr (h64 x) hy0.1 hy0.2)
        exact ⟨fun h => (by cases h), fun _ => .inr this, Nat.le_of_lt this⟩
      refine ⟨hc.trans ih.1, fun h => ?_⟩
      have := (ih.1.no h).1
      cases this
theorem swx_ch {s : Bool × (Nat → Nat)} {x : Nat} (hx : x < 6) (h64 : ∀ i, s.2 i < 64) : Ch s (swx K s x) ∧ ((swx K s x).1 = false → ∀ y ∈ bl (s.2 x), K s.2 x y = true) :=
  swc_fold hx _ s (bl_nodup _) h64 fun y hy => mem_bl.1 hy
theorem swx_fold : ∀ (xs : List Nat) (s : Bool × (Nat → Nat)), (∀ x ∈ xs, x < 6) → (∀ i, s.2 i < 64) →
    Ch s (xs.foldl (swx K) s) ∧ ((xs.foldl (swx K) s).1 = false → ∀ x ∈ xs, ∀ y ∈ bl (s.2 x), K s.2 x y = true)
  | [], s, _, _ => ⟨Ch.refl s, fun _ y hy => by cases hy⟩
  | x :: xs, s, hx, h64 => by
    have h1 := swx_ch (K := K) (s := s) (hx x (by simp)) h64
    have ih := swx_fold xs (swx K s x) (fun z hz => hx z (by simp [hz])) (by rw [swx_snd]; exact dwx_lt h64)
    rw [List.foldl_cons]
    refine ⟨h1.1.trans ih.1, fun h => ?_⟩
    obtain ⟨a, b⟩ := ih.1.no h
    obtain ⟨c, d⟩ := h1.1.no a
    intro z hz
    rcases List.mem_cons.1 hz with rfl | hz
    · exact h1.2 a
    · have := ih.2 h z hz
      rw [d] at this
      exact this
theorem sws_ch {m : Nat} (hm : m ≤ 6) {f : Nat → Nat} (h64 : ∀ i, f i < 64) : Ch (false, f) (sws K m f) ∧ ((sws K m f).1 = false → ∀ x, x < m → ∀ y ∈ bl (f x), K f x y = true) := by
  have h := swx_fold (K := K) (List.range m) (false, f) (fun x hx => by have := List.mem_range.1 hx; omega) h64
  exact ⟨h.1, fun hh x hx => h.2 hh x (List.mem_range.2 hx)⟩
theorem dws_fix {m : Nat} (hm : m ≤ 6) : ∀ (n : Nat) {f : Nat → Nat}, (∀ i, f i < 64) → sizeF f ≤ n → (sws K m (itr (dws K m) n f)).1 = false
  | 0, f, h64, hs => by
    have h := sws_ch (K := K) hm h64
    cases hc : (sws K m f).1 with
    | false => exact hc
    | true =>
      rcases h.1.yes hc with a | a
      · cases a
      · have : sizeF (sws K m f).2 < sizeF f := a
        omega
  | n + 1, f, h64, hs => by
    have h := sws_ch (K := K) hm h64
    cases hc : (sws K m f).1 with
    | false =>
      have hf : dws K m f = f := by rw [← sws_snd]; exact (h.1.no hc).2
      rw [itr_fix hf]; exact hc
    | true =>
      rcases h.1.yes hc with a | a
      · cases a
      · have a' : sizeF (dws K m f) < sizeF f := by rw [← sws_snd]; exact a
        rw [itr]
        exact dws_fix hm n (dws_lt h64) (by omega)
theorem fix_of {m : Nat} (hm : m ≤ 6) {f : Nat → Nat} (h64 : ∀ i, f i < 64) (h : (sws K m f).1 = false) : dws K m f = f := by
  rw [← sws_snd]; exact ((sws_ch hm h64).1.no h).2
def subF (p f : Nat → Nat) : Prop := ∀ x, Wi (p x) (f x)
def isPf (K : (Nat → Nat) → Nat → Nat → Bool) (m : Nat) (f : Nat → Nat) : Prop := ∀ x, x < m → ∀ y ∈ bl (f x), K f x y = true
end
end Go.Am

set_option maxRecDepth 100000
set_option linter.unusedVariables false
set_option linter.unusedSimpArgs false
set_option linter.unusedSectionVars false
namespace Go.Am
open Go
def badK (m' : Nat) (l' : List St3) (f : Nat → Nat) (x y : Nat) (z : St3) : Bool := decide (z.1 = (x : Int)) && decide (comesN m' l' (2 ^ y) z.2.1 &&& f z.2.2.toNat = 0)
def keepN (l : List St3) (m' : Nat) (l' : List St3) (f : Nat → Nat) (x y : Nat) : Bool := !l.any (badK m' l' f x y)
theorem andS {a b : Nat} (ha : a < 64) (hb : b < 64) : Ar.std.bits .and .u8 (a : Int) (b : Int) = ((a &&& b : Nat) : Int) := by rw [std_bits]; exact and_u8 a b (by omega) (by omega)
theorem andI {a b : Nat} (ha : a < 64) (hb : b < 64) : Ar.std.bits .and .i64 (a : Int) (b : Int) = ((a &&& b : Nat) : Int) := by rw [std_bits]; exact and_i64 a b (by omega) (by omega)
def badL (l : List St3) (m' : Nat) (l' : List St3) (f : Nat → Nat) (x y lab : Nat) : Bool := (bl (stepN l (2 ^ x) (lab : Int))).any fun to => decide (f to &&& comesN m' l' (2 ^ y) (lab : Int) = 0)
theorem step_mem {l : List St3} (hl : SOk l) {x lab : Nat} (to : Nat) : to ∈ bl (stepN l (2 ^ x) (lab : Int)) ↔ ∃ z ∈ l, z.2.1 = (lab : Int) ∧ z.1 = (x : Int) ∧ z.2.2 = (to : Int) := by
  rw [mem_bl, stepN_test]
  simp only [List.any_eq_true, goes, Bool.and_eq_true, decide_eq_true_eq, Nat.testBit_two_pow]
  constructor
  · rintro ⟨h6, z, hz, ⟨h1, h2⟩, h3⟩
    have := hl.2 z hz
    exact ⟨z, hz, h1, by omega, by omega⟩
  · rintro ⟨z, hz, h1, h2, h3⟩
    have := hl.2 z hz
    refine ⟨by omega, z, hz, ⟨h1, by omega⟩, by omega⟩
theorem keep_labels {l : List St3} (hl : SOk l) (m' : Nat) (l' : List St3) (f : Nat → Nat) (x y : Nat) : (List.range 4).any (badL l m' l' f x y) = l.any (badK m' l' f x y) := by
  rw [Bool.eq_iff_iff]
  simp only [List.any_eq_true, List.mem_range, badL, badK, Bool.and_eq_true, decide_eq_true_eq]
  constructor
  · rintro ⟨lab, hlab, to, hto, h0⟩
    obtain ⟨z, hz, h1, h2, h3⟩ := (step_mem hl to).1 hto
    refine ⟨z, hz, h2, ?_⟩
    rw [h1, h3, Int.toNat_natCast, Nat.and_comm]; exact h0
  · rintro ⟨z, hz, h1, h2⟩
    have := hl.2 z hz
    have e : ((z.2.1.toNat : Nat) : Int) = z.2.1 := by omega
    refine ⟨z.2.1.toNat, by omega, z.2.2.toNat, (step_mem hl _).2 ⟨z, hz, by omega, h1, by omega⟩, ?_⟩
    rw [e, Nat.and_comm]; exact h2
theorem R99_eq {m m' : Nat} {l l' : List St3} (S : Sys m l) (S' : Sys m' l') {f : Nat → Nat} (hf : ∀ i, f i < 64) {x y : Nat} (hx : x < 6) (hy : y < m') : R99 Ar.std (rU f) (x : Int) (y : Int) (FR m l (tF m l)) (FR m' l' (tF m' l')) = some (keepN l m' l' f x y) := by
  have hm' := S'.le
  have hy6 : y < 6 := by omega
  have key := iter_stop (step := R99L1 Ar.std (rU f) (x : Int) (y : Int) (FR m l (tF m l)) (FR m' l' (tF m' l'))) 4 (fun i => (i : Int)) (badL l m' l' f x y) () (fun lab hlab _ => by
    have hs : tF m l (6 * lab + x) = stepN l (2 ^ x) (lab : Int) := by
      rw [tF_step _ (by omega), show (6 * lab + x) % 6 = x from by omega, show (6 * lab + x) / 6 = lab from by omega]
    have hst : stepN l (2 ^ x) (lab : Int) < 64 := stepN_lt S.ok _ _
    have hc : tF m' l' (24 + 6 * lab + y) = comesN m' l' (2 ^ y) (lab : Int) := tF_comes hlab hy hy6
    have hc64 : comesN m' l' (2 ^ y) (lab : Int) < 64 := lt64 hm' (comesN_ltB S'.sb (Nat.pow_lt_pow_right (by decide) hy) _)
    have inner := iter_stop (step := R99L0 Ar.std (rU f) (y : Int) (FR m' l' (tF m' l')) (lab : Int) (eInt (cNs (bl (stepN l (2 ^ x) (lab : Int)))))) (bl (stepN l (2 ^ x) (lab : Int))).length (fun i => (i : Int)) (fun i => ((bl (stepN l (2 ^ x) (lab : Int)))[i]?.map fun to => decide (f to &&& comesN m' l' (2 ^ y) (lab : Int) = 0)).getD false) () (fun i hi _ => by
      have ha := List.getElem?_eq_getElem hi
      generalize (bl (stepN l (2 ^ x) (lab : Int)))[i] = a at ha
      have ha6 : a < 6 := (mem_bl.1 (List.mem_of_getElem? ha)).1
      have hlt : Ar.std.zlt (i : Int) (Ar.std.len (eInt (cNs (bl (stepN l (2 ^ x) (lab : Int)))))) = true := by rw [eIc_len]; exact ltN hi
      have hgt : gt Ar.std (cI .i64) (eInt (cNs (bl (stepN l (2 ^ x) (lab : Int))))) (i : Int) = some (a : Int) := gt_enc (cNs_get ha)
      have hb := bl_len (stepN l (2 ^ x) (lab : Int))
      have hix := ix3 lab y 24
      have hstep : R99L0 Ar.std (rU f) (y : Int) (FR m' l' (tF m' l')) (lab : Int) (eInt (cNs (bl (stepN l (2 ^ x) (lab : Int))))) (i : Int) = some (bif decide (f a &&& comesN m' l' (2 ^ y) (lab : Int) = 0) then .inr (.inr ()) else .inl ((i + 1 : Nat) : Int)) := by
        unfold R99L0
        rw [hlt, cond_true, hgt, bsome, ckN, bsome, ckL ha6, bsome, ix1, rU_gc _ ha6, bsome, ckN, bsome, ckL hlab, bsome, ckN, bsome, ckL hy6, bsome, hix, FR_gc _ _ _ (by omega), bsome, hc, andS (hf a) hc64, zeqN, inc (by omega : i < 100) (by decide)]
        cases decide (f a &&& comesN m' l' (2 ^ y) (lab : Int) = 0) <;> rfl
      rw [ha, Option.map_some, Option.getD_some]
      exact ⟨fun hb => by rw [hstep, hb, cond_false], fun hb => ⟨(), by rw [hstep, hb, cond_true]⟩⟩) (fun _ => by
      unfold R99L0
      rw [show Ar.std.zlt ((bl (stepN l (2 ^ x) (lab : Int))).length : Int) (Ar.std.len (eInt (cNs (bl (stepN l (2 ^ x) (lab : Int)))))) = false from by rw [eIc_len]; exact geN _, cond_false])
    have hany : (List.range (bl (stepN l (2 ^ x) (lab : Int))).length).any (fun i => ((bl (stepN l (2 ^ x) (lab : Int)))[i]?.map fun to => decide (f to &&& comesN m' l' (2 ^ y) (lab : Int) = 0)).getD false) = badL l m' l' f x y lab := by
      unfold badL
      rw [Bool.eq_iff_iff]
      simp only [List.any_eq_true, List.mem_range]
      constructor
      · rintro ⟨i, hi, h⟩
        rw [List.getElem?_eq_getElem hi, Option.map_some, Option.getD_some] at h
        exact ⟨_, List.getElem_mem hi, h⟩
      · rintro ⟨a, ha, h⟩
        obtain ⟨i, hi, rfl⟩ := List.getElem_of_mem ha
        exact ⟨i, hi, by rw [List.getElem?_eq_getElem hi, Option.map_some, Option.getD_some]; exact h⟩
    rw [hany] at inner
    have hix2 := ix3 lab x 0
    rw [show 0 + 6 * lab + x = 6 * lab + x from by omega] at hix2
    have e0 : (((0 : Nat) : Int)) = 0 := rfl
    have hL : iter (R99L0 Ar.std (rU f) (y : Int) (FR m' l' (tF m' l')) (lab : Int) (eInt (cNs (bl (stepN l (2 ^ x) (lab : Int)))))) 0 = some (bif badL l m' l' f x y lab then .inr () else .inl ()) := by
      rw [← e0]
      rcases inner with ⟨h1, _, h3⟩ | ⟨h1, z, h3⟩
      · rw [h1]; exact h3
      · rw [h1]; exact h3
    have hstep : R99L1 Ar.std (rU f) (x : Int) (y : Int) (FR m l (tF m l)) (FR m' l' (tF m' l')) (lab : Int) = some (bif badL l m' l' f x y lab then .inr (.inr ()) else .inl ((lab + 1 : Nat) : Int)) := by
      unfold R99L1
      rw [lt4 hlab, cond_true, ckN, bsome, ckL hlab, bsome, ckN, bsome, ckL hx, bsome, hix2, FR_gc _ _ _ (by omega), bsome, hs, R76_eq _ hst, bsome, hL, bsome, inc (by omega : lab < 100) (by decide)]
      cases badL l m' l' f x y lab <;> rfl
    exact ⟨fun hb => by rw [hstep, hb, cond_false], fun hb => ⟨(), by rw [hstep, hb, cond_true]⟩⟩) (fun _ => by
    unfold R99L1
    rw [show Ar.std.zlt ((4 : Nat) : Int) 4 = false from rfl, cond_false])
  have e0 : (((0 : Nat) : Int)) = 0 := rfl
  rw [e0, keep_labels S.ok] at key
  unfold R99 keepN
  rw [rU_len, bsome]
  rcases key with ⟨h1, _, h3⟩ | ⟨h1, z, h3⟩
  · rw [h3, bsome, h1]; rfl
  · rw [h3, bsome, h1]; rfl
theorem R96_eq {m m' : Nat} {l l' : List St3} (S : Sys m l) (S' : Sys m' l') (hl : l.length < Lg) {f : Nat → Nat} (hf : ∀ i, f i < 64) {x y : Nat} (hy : y < m') : R96 Ar.std (m : Int) (eSt l) (m' : Int) (eSt l') 0 (m : Int) (x : Int) (y : Int) (rI m f) = some (keepN l m' l' f x y) := by
  have hm' := S'.le
  have key := iter_any (step := R96L0 Ar.std (eSt l) (m' : Int) (eSt l') 0 (m : Int) (x : Int) (y : Int) (rI m f)) l (badK m' l' f x y) (.inr ()) (.inl ()) (fun i z hz hi => by
    have hok := S.ok.2 z (List.mem_of_getElem? hz)
    have hB := S.sb z (List.mem_of_getElem? hz)
    have hget : gt Ar.std cSt (eSt l) (i : Int) = some z := gt_enc hz
    have hpy : 2 ^ y < 2 ^ m' := Nat.pow_lt_pow_right (by decide) hy
    have hc64 : comesN m' l' (2 ^ y) z.2.1 < 64 := lt64 hm' (comesN_ltB S'.sb hpy _)
    have h74 := R74_eq (m' : Int) (by omega) (by omega) S'.ok (2 ^ y) (lt64 hm' hpy) z.2.1
    unfold R96L0 badK
    rw [ltS hi, cond_true, hget, bsome]
    obtain ⟨t, ht⟩ : ∃ t : Nat, z.2.2 = (t : Int) := ⟨z.2.2.toNat, by omega⟩
    have htm : t < m := by rw [ht] at hB; simpa using hB
    have hin : (bif Ar.std.zeq z.1 (x : Int) then (nk (Ar.std.zlt (y : Int) 0)).bind fun _ => (R74 Ar.std (m' : Int) (eSt l') (Ar.std.shl .i64 1 (y : Int)) z.2.1).bind fun r44 => (ck (Ar.std.zle 0 z.2.2)).bind fun _ => (ck (Ar.std.zlt z.2.2 (m : Int))).bind fun _ => (gc Ar.std (cI .i64) (rI m f) (Ar.std.nat (Ar.std.zadd 0 z.2.2))).bind fun a49 => some (Ar.std.zeq (Ar.std.bits .and .i64 r44 a49) 0) else some false) = some (decide (z.1 = (x : Int)) && decide (comesN m' l' (2 ^ y) z.2.1 &&& f z.2.2.toNat = 0)) := by
      rw [std_zeq, ht]
      cases decide (z.1 = (x : Int)) with
      | false => rfl
      | true =>
        rw [cond_true, nkN, bsome, shlI (by omega), h74, bsome, ckN, bsome, ckL' htm, bsome, zaddZ, rI_gc _ htm, bsome, andI hc64 (hf t), zeqN, Int.toNat_natCast]; rfl
    dsimp only
    rw [hin, bsome, inc hi hl]
    cases (decide (z.1 = (x : Int)) && decide (comesN m' l' (2 ^ y) z.2.1 &&& f z.2.2.toNat = 0)) <;> rfl) (by
    unfold R96L0
    rw [geS, cond_false])
  unfold R96 keepN
  rw [key, bsome]
  cases l.any (badK m' l' f x y) <;> rfl
end Go.Am

set_option maxRecDepth 100000
set_option linter.unusedVariables false
set_option linter.unusedSimpArgs false
set_option linter.unusedSectionVars false
namespace Go.Am
open Go
section
variable {m m' : Nat} {l l' : List St3}
def allF (m m' : Nat) (x : Nat) : Nat := if x < m then 2 ^ m' - 1 else 0
theorem allF_size : ∀ (m m' : Fin 7), sizeF (allF m.val m'.val) ≤ m.val * m'.val := by decide +kernel
def bestF (m : Nat) (l : List St3) (m' : Nat) (l' : List St3) : Nat → Nat := itr (dws (keepN l m' l') m) (m * m') (allF m m')
theorem clr_ltB {a y n : Nat} (h : a < 2 ^ n) : clr a y < 2 ^ n := Nat.lt_of_le_of_lt Nat.and_le_left h
theorem dwc_inB {K : (Nat → Nat) → Nat → Nat → Bool} {x y : Nat} {f : Nat → Nat} (h : ∀ i, f i < 2 ^ m') (i : Nat) : dwc K x f y i < 2 ^ m' := by
  unfold dwc
  cases K f x y with
  | true => exact h i
  | false =>
    show upd f x (clr (f x) y) i < _
    unfold upd; split
    · exact clr_ltB (h x)
    · exact h i
theorem fold_inv {γ S : Type} {P : S → Prop} {g : S → γ → S} (hg : ∀ f c, P f → P (g f c)) : ∀ (l : List γ) (f : S), P f → P (l.foldl g f)
  | [], f, h => h
  | c :: l, f, h => fold_inv hg l (g f c) (hg f c h)
theorem dwx_inB {K : (Nat → Nat) → Nat → Nat → Bool} {x : Nat} {f : Nat → Nat} (h : ∀ i, f i < 2 ^ m') : ∀ i, dwx K f x i < 2 ^ m' := fold_inv (g := dwc K x) (P := fun f => ∀ i, f i < 2 ^ m') (fun f c h => dwc_inB (f := f) h) _ f h
theorem dws_inB {K : (Nat → Nat) → Nat → Nat → Bool} {f : Nat → Nat} (h : ∀ i, f i < 2 ^ m') : ∀ i, dws K m f i < 2 ^ m' := fold_inv (g := dwx K) (P := fun f => ∀ i, f i < 2 ^ m') (fun f c h => dwx_inB (f := f) h) _ f h
theorem itr_inB {K : (Nat → Nat) → Nat → Nat → Bool} : ∀ (k : Nat) {f : Nat → Nat}, (∀ i, f i < 2 ^ m') → ∀ i, itr (dws K m) k f i < 2 ^ m'
  | 0, f, h => h
  | k + 1, f, h => itr_inB k (dws_inB h)
theorem allF_inB (i : Nat) : allF m m' i < 2 ^ m' := by
  have := Nat.two_pow_pos m'
  unfold allF; split <;> omega
theorem lt2 {m' : Nat} (hm' : m' ≤ 6) {f : Nat → Nat} (h : ∀ i, f i < 2 ^ m') : ∀ i, f i < 64 := fun i => lt64 hm' (h i)
theorem andNotS {a y : Nat} (ha : a < 64) (hy : y < 6) : Ar.std.bits .andNot .u8 (a : Int) ((2 ^ y : Nat) : Int) = ((clr a y : Nat) : Int) := by rw [std_bits]; exact andNot_u8 ⟨a, ha⟩ ⟨y, hy⟩
theorem andNotI {a y : Nat} (ha : a < 64) (hy : y < 6) : Ar.std.bits .andNot .i64 (a : Int) ((2 ^ y : Nat) : Int) = ((clr a y : Nat) : Int) := by rw [std_bits]; exact andNot_i64 ⟨a, ha⟩ ⟨y, hy⟩
theorem R90L1_eq (S : Sys m l) (S' : Sys m' l') {x : Nat} (hx : x < 6) {a : Nat} (ha : a < 2 ^ m') (s0 : Bool × (Nat → Nat)) (h0 : ∀ i, s0.2 i < 2 ^ m') :
    iter (R90L1 Ar.std (FR m l (tF m l)) (FR m' l' (tF m' l')) (x : Int) (eInt (cNs (bl a)))) (s0.1, 0, rU s0.2) = some (((bl a).foldl (swc (keepN l m' l') x) s0).1, rU ((bl a).foldl (swc (keepN l m' l') x) s0).2) := by
  have hm' := S'.le
  have hb := bl_len a
  have key := iter_foldI (step := R90L1 Ar.std (FR m l (tF m l)) (FR m' l' (tF m' l')) (x : Int) (eInt (cNs (bl a)))) (bl a) (fun (s : Bool × (Nat → Nat)) i => (s.1, (i : Int), rU s.2)) (swc (keepN l m' l') x) (fun s => (s.1, rU s.2)) (fun s => ∀ i, s.2 i < 2 ^ m') (fun i y s hy hi hI => by
    refine ⟨?_, by rw [swc_snd]; exact dwc_inB hI⟩
    have hym : y < m' := bl_lt ha (List.mem_of_getElem? hy)
    have hy6 : y < 6 := by omega
    have hlt : Ar.std.zlt (i : Int) (Ar.std.len (eInt (cNs (bl a)))) = true := by rw [eIc_len]; exact ltN hi
    have hgt : gt Ar.std (cI .i64) (eInt (cNs (bl a))) (i : Int) = some (y : Int) := gt_enc (cNs_get hy)
    unfold R90L1 swc
    dsimp only
    rw [hlt, cond_true, hgt, bsome, rU_ga, bsome, R99_eq S S' (lt2 hm' hI) hx hym, bsome, inc (by omega : i < 100) (by decide)]
    cases keepN l m' l' s.2 x y with
    | true => rfl
    | false =>
      rw [cond_false, cond_false, ckN, bsome, ckL hx, bsome, ix1, rU_gc _ hx, bsome, nkN, bsome, bsome, bsome, rU_lget _ hx, bsome, bsome, shlS (by omega), andNotS (lt2 hm' hI x) hy6, rU_lset]) (fun s _ => by
    unfold R90L1
    dsimp only
    rw [show Ar.std.zlt ((bl a).length : Int) (Ar.std.len (eInt (cNs (bl a)))) = false from by rw [eIc_len]; exact geN _, cond_false]) s0 h0
  exact key
theorem range_get {n i : Nat} {a : Nat} (h : (List.range n)[i]? = some a) : a = i ∧ i < n := by
  rw [List.getElem?_eq_some_iff] at h
  obtain ⟨h1, h2⟩ := h
  rw [List.length_range] at h1
  rw [List.getElem_range] at h2
  exact ⟨h2.symm, h1⟩
theorem R90L2_eq (S : Sys m l) (S' : Sys m' l') (s0 : Bool × (Nat → Nat)) (h0 : ∀ i, s0.2 i < 2 ^ m') :
    iter (R90L2 Ar.std (FR m l (tF m l)) (FR m' l' (tF m' l')) (m : Int)) (s0.1, 0, rU s0.2) = some (((List.range m).foldl (swx (keepN l m' l')) s0).1, rU ((List.range m).foldl (swx (keepN l m' l')) s0).2) := by
  have hm := S.le
  have hm' := S'.le
  have key := iter_foldI (step := R90L2 Ar.std (FR m l (tF m l)) (FR m' l' (tF m' l')) (m : Int)) (List.range m) (fun (s : Bool × (Nat → Nat)) i => (s.1, (i : Int), rU s.2)) (swx (keepN l m' l')) (fun s => (s.1, rU s.2)) (fun s => ∀ i, s.2 i < 2 ^ m') (fun i x s hx hi hI => by
    refine ⟨?_, by rw [swx_snd]; exact dwx_inB hI⟩
    obtain ⟨rfl, hi⟩ := range_get hx
    unfold R90L2 swx
    dsimp only
    rw [ltN hi, cond_true, ckN, bsome, ckL (by omega : x < 6), bsome, ix1, rU_gc _ (by omega), bsome, R76_eq _ (lt2 hm' hI x), bsome, R90L1_eq S S' (by omega) (hI x) s hI, bsome, inc (by omega : x < 100) (by decide)]) (fun s _ => by
    unfold R90L2
    dsimp only
    rw [List.length_range, geN, cond_false]) s0 h0
  exact key
theorem FR_gc0' (n : Int) (l : List St3) (f : Nat → Nat) : gc Ar.std (cI .i64) (FR n l f) (Ar.std.nat 0) = some n := FR_gc0 n l f
theorem R90L3_eq (S : Sys m l) (S' : Sys m' l') : ∀ (n : Nat) (f : Nat → Nat), (∀ i, f i < 2 ^ m') → sizeF f ≤ n →
    iter (R90L3 Ar.std (FR m l (tF m l)) (FR m' l' (tF m' l'))) (true, rU f) = some (rU (itr (dws (keepN l m' l') m) n f)) := by
  have step : ∀ (f : Nat → Nat), (∀ i, f i < 2 ^ m') → R90L3 Ar.std (FR m l (tF m l)) (FR m' l' (tF m' l')) (true, rU f) = some (.inl ((sws (keepN l m' l') m f).1, rU (sws (keepN l m' l') m f).2)) := fun f hf => by
    unfold R90L3
    dsimp only
    rw [cond_true, FR_gc0', bsome, R90L2_eq S S' (false, f) hf, bsome]; rfl
  have stop : ∀ (f : Nat → Nat), R90L3 Ar.std (FR m l (tF m l)) (FR m' l' (tF m' l')) (false, rU f) = some (.inr (rU f)) := fun f => by
    unfold R90L3
    dsimp only
    rw [cond_false]
  intro n
  induction n with
  | zero =>
    intro f hf hs
    have h := sws_ch (K := keepN l m' l') S.le (lt2 S'.le hf)
    have hst := step f hf
    cases hc : (sws (keepN l m' l') m f).1 with
    | false =>
      rw [hc, (h.1.no hc).2] at hst
      rw [iter_inl hst, iter_inr (stop f)]; rfl
    | true =>
      rcases h.1.yes hc with a | a
      · cases a
      · have : sizeF (sws (keepN l m' l') m f).2 < sizeF f := a
        omega
  | succ n ih =>
    intro f hf hs
    have h := sws_ch (K := keepN l m' l') S.le (lt2 S'.le hf)
    have hst := step f hf
    cases hc : (sws (keepN l m' l') m f).1 with
    | false =>
      rw [itr_fix (fix_of S.le (lt2 S'.le hf) hc)]
      rw [hc, (h.1.no hc).2] at hst
      rw [iter_inl hst, iter_inr (stop f)]
    | true =>
      rcases h.1.yes hc with a | a
      · cases a
      · have a' : sizeF (dws (keepN l m' l') m f) < sizeF f := by rw [← sws_snd]; exact a
        rw [hc, sws_snd] at hst
        rw [iter_inl hst, itr]
        exact ih _ (dws_inB hf) (by omega)
theorem bestF_inB : ∀ i, bestF m l m' l' i < 2 ^ m' := itr_inB _ allF_inB
theorem R90_eq (S : Sys m l) (S' : Sys m' l') : R90 Ar.std (FR m l (tF m l)) (FR m' l' (tF m' l')) = some (rU (bestF m l m' l')) := by
  have hm := S.le
  have hm' := S'.le
  have h2 : 2 ^ m' ≤ 64 := Nat.pow_le_pow_right (n := 2) (by decide) hm'
  have hp := Nat.two_pow_pos m'
  have key := iter_to (step := R90L0 Ar.std (FR m' l' (tF m' l')) (m : Int)) m (fun i => ((i : Int), rU (allF i m'))) (rU (allF m m')) (fun i hi => by
    have hw : Ar.std.wrp .u8 (Ar.std.zsub (Ar.std.shl .u8 1 (m' : Int)) 1) = ((2 ^ m' - 1 : Nat) : Int) := by
      rw [shlS (by omega), std_wrp, std_zsub, u8w _ (by omega) (by omega)]; omega
    have hu : upd (allF i m') i (2 ^ m' - 1) = allF (i + 1) m' := by
      funext j
      unfold upd allF
      by_cases h : j = i
      · rw [if_pos h, if_pos (by omega)]
      · rw [if_neg h]
        by_cases h2 : j < i
        · rw [if_pos h2, if_pos (by omega)]
        · rw [if_neg h2, if_neg (by omega)]
    unfold R90L0
    dsimp only
    rw [ltN hi, cond_true, FR_gc0', bsome, nkN, bsome, ckN, bsome, ckL (by omega : i < 6), bsome, ix1, rU_lget _ (by omega), bsome, hw, rU_lset, hu, inc (by omega : i < 100) (by decide)]) (by
    unfold R90L0
    dsimp only
    rw [geN, cond_false])
  have e0 : rU (allF 0 m') = rU fun _ => 0 := rU_congr fun i _ => by unfold allF; rw [if_neg (by omega)]
  rw [e0] at key
  have hsz : sizeF (allF m m') ≤ m * m' := allF_size ⟨m, by omega⟩ ⟨m', by omega⟩
  have h3 := R90L3_eq S S' (m * m') (allF m m') allF_inB hsz
  unfold R90
  have key' : iter (R90L0 Ar.std (FR m' l' (tF m' l')) (m : Int)) (0, Ar.std.rep (Int.ofNat 6) (.int .u8 0)) = some (rU (allF m m')) := by rw [rU_rep]; exact key
  rw [FR_gc0', bsome, key', bsome, h3, bsome]
  show (ga Ar.std (rU (bestF m l m' l')) _ _).bind _ = _
  rw [rU_ga, bsome, rU_len, bsome, rU_room, bsome, rU_spl, rU_len, bsome, rU_ones, bsome]
end
end Go.Am

set_option maxRecDepth 100000
set_option linter.unusedVariables false
set_option linter.unusedSimpArgs false
set_option linter.unusedSectionVars false
namespace Go.Am
open Go
section
variable {m m' : Nat} {l l' : List St3}
theorem R100L1_eq (S : Sys m l) (S' : Sys m' l') (hl : l.length < Lg) {x : Nat} (hx : x < m) {a : Nat} (ha : a < 2 ^ m') (f0 : Nat → Nat) (h0 : ∀ i, f0 i < 2 ^ m') :
    iter (R100L1 Ar.std (m : Int) (eSt l) (m' : Int) (eSt l') (x : Int) (eInt (cNs (bl a)))) (0, rI m f0) = some (rI m ((bl a).foldl (dwc (keepN l m' l') x) f0)) := by
  have hm := S.le
  have hm' := S'.le
  have hb := bl_len a
  have key := iter_foldI (step := R100L1 Ar.std (m : Int) (eSt l) (m' : Int) (eSt l') (x : Int) (eInt (cNs (bl a)))) (bl a) (fun (f : Nat → Nat) i => ((i : Int), rI m f)) (dwc (keepN l m' l') x) (rI m) (fun f => ∀ i, f i < 2 ^ m') (fun i y f hy hi hI => by
    refine ⟨?_, dwc_inB (f := f) hI⟩
    have hym : y < m' := bl_lt ha (List.mem_of_getElem? hy)
    have hy6 : y < 6 := by omega
    have hlt : Ar.std.zlt (i : Int) (Ar.std.len (eInt (cNs (bl a)))) = true := by rw [eIc_len]; exact ltN hi
    have hgt : gt Ar.std (cI .i64) (eInt (cNs (bl a))) (i : Int) = some (y : Int) := gt_enc (cNs_get hy)
    unfold R100L1 dwc
    dsimp only
    rw [hlt, cond_true, hgt, bsome, R96_eq S S' hl (lt2 hm' hI) hym, bsome, inc (by omega : i < 100) (by decide)]
    cases keepN l m' l' f x y with
    | true => rfl
    | false =>
      rw [cond_false, cond_false, ckN, bsome, ckL' hx, bsome, zaddZ, rI_gc _ hx, bsome, nkN, bsome, bsome, bsome, rI_lget _ hx, bsome, bsome, shlI (by omega), andNotI (lt2 hm' hI x) hy6, rI_lset]) (fun s _ => by
    unfold R100L1
    dsimp only
    rw [show Ar.std.zlt ((bl a).length : Int) (Ar.std.len (eInt (cNs (bl a)))) = false from by rw [eIc_len]; exact geN _, cond_false]) f0 h0
  exact key
theorem R100L2_eq (S : Sys m l) (S' : Sys m' l') (hl : l.length < Lg) (f0 : Nat → Nat) (h0 : ∀ i, f0 i < 2 ^ m') :
    iter (R100L2 Ar.std (m : Int) (eSt l) (m' : Int) (eSt l')) (0, rI m f0) = some (rI m (dws (keepN l m' l') m f0)) := by
  have hm := S.le
  have hm' := S'.le
  have key := iter_foldI (step := R100L2 Ar.std (m : Int) (eSt l) (m' : Int) (eSt l')) (List.range m) (fun (f : Nat → Nat) i => ((i : Int), rI m f)) (dwx (keepN l m' l')) (rI m) (fun f => ∀ i, f i < 2 ^ m') (fun i x f hx hi hI => by
    refine ⟨?_, dwx_inB (f := f) hI⟩
    obtain ⟨rfl, hi⟩ := range_get hx
    unfold R100L2 dwx
    dsimp only
    rw [ltN hi, cond_true, ckN, bsome, ck_true, bsome, zaddZ, rI_gc _ hi, bsome, R78_eq _ (i62 (lt2 hm' hI x)), bsome, R100L1_eq S S' hl hi (hI x) f hI, bsome, inc (by omega : x < 100) (by decide)]) (fun s _ => by
    unfold R100L2
    dsimp only
    rw [List.length_range, geN, cond_false]) f0 h0
  exact key
theorem rI_len (n : Nat) (f : Nat → Nat) : (rI n f).length = n := by simp [rI]
theorem rI_fz (n : Nat) (f : Nat → Nat) : fz Ar.std (rI n f) 0 (n : Int) = some (rI n f) := by
  unfold fz
  rw [std_zadd, std_zle, std_len, rI_len, decide_eq_true (by omega), cond_true, std_sub]
  congr 1
  rw [show (0 + (n : Int)).toNat - (0 : Int).toNat = n from by omega, show (0 : Int).toNat = 0 from rfl, List.drop_zero, List.take_of_length_le (by rw [rI_len]; omega)]
theorem fits6 {m : Nat} (h : m ≤ 6) : ck (Ar.std.fits (m : Int)) = some () := ck_of (by rw [std_fits]; exact decide_eq_true (by omega))
theorem zle0 (m : Nat) : ck (Ar.std.zle 0 (m : Int)) = some () := ckN m
theorem ckS (x : Int) : ck (Ar.std.zeq x x) = some () := ck_of (zeqS x)
theorem R100_eq (S : Sys m l) (S' : Sys m' l') (hl : l.length < Lg) : R100 Ar.std (m : Int) (eSt l) (m' : Int) (eSt l') = some (rI m (bestF m l m' l')) := by
  have hm := S.le
  have hm' := S'.le
  have h2 : 2 ^ m' ≤ 64 := Nat.pow_le_pow_right (n := 2) (by decide) hm'
  have hp := Nat.two_pow_pos m'
  have k0 := iter_to (step := R100L0 Ar.std (m : Int) (m' : Int)) m (fun i => ((i : Int), rI m (allF i m'))) (rI m (allF m m')) (fun i hi => by
    have hw : Ar.std.wrp .i64 (Ar.std.zsub (Ar.std.shl .i64 1 (m' : Int)) 1) = ((2 ^ m' - 1 : Nat) : Int) := by
      rw [shlI (by omega), std_wrp, std_zsub, i64w _ (by omega) (by omega)]; omega
    have hu : upd (allF i m') i (2 ^ m' - 1) = allF (i + 1) m' := by
      funext j
      unfold upd allF
      by_cases h : j = i
      · rw [if_pos h, if_pos (by omega)]
      · rw [if_neg h]
        by_cases h2 : j < i
        · rw [if_pos h2, if_pos (by omega)]
        · rw [if_neg h2, if_neg (by omega)]
    unfold R100L0
    dsimp only
    rw [ltN hi, cond_true, nkN, bsome, ckN, bsome, ck_true, bsome, zaddZ, rI_lget _ hi, bsome, hw, rI_lset, hu, inc (by omega : i < 100) (by decide)]) (by
    unfold R100L0
    dsimp only
    rw [geN, cond_false])
  have e0 : rI m (allF 0 m') = rI m fun _ => 0 := rI_congr fun i _ => by unfold allF; rw [if_neg (by omega)]
  rw [e0, ← rI_rep] at k0
  have hmm : m * m' ≤ 36 := Nat.le_trans (Nat.mul_le_mul hm hm') (by decide)
  have hmul : Ar.std.wrp .i64 (Ar.std.zmul (m : Int) (m' : Int)) = ((m * m' : Nat) : Int) := by
    rw [std_wrp, std_zmul, ← Int.natCast_mul, i64w _ (by omega) (by omega)]
  have k3 := iter_to (step := R100L3 Ar.std (m : Int) (eSt l) (m' : Int) (eSt l')) (m * m') (fun i => ((i : Int), rI m (itr (dws (keepN l m' l') m) i (allF m m')))) (rI m (bestF m l m' l')) (fun i hi => by
    unfold R100L3
    dsimp only
    rw [hmul, ltN hi, cond_true, R100L2_eq S S' hl _ (itr_inB i allF_inB), bsome, inc (by omega : i < 100) (by decide), itr_succ]) (by
    unfold R100L3
    dsimp only
    rw [hmul, geN, cond_false]; rfl)
  have k0' : iter (R100L0 Ar.std (m : Int) (m' : Int)) (0, Ar.std.rep (m : Int) (.int .i64 0)) = some (rI m (allF m m')) := k0
  have k3' : iter (R100L3 Ar.std (m : Int) (eSt l) (m' : Int) (eSt l')) (0, rI m (allF m m')) = some (rI m (bestF m l m' l')) := k3
  unfold R100
  rw [ckS, bsome, zle0, bsome, fits6 hm, bsome, k0', bsome, k3', bsome, rI_fz, bsome]
end
def bst (n : Int) (l : List St3) (n' : Int) (l' : List St3) : List P2 × Int :=
  bif vSys n l && vSys n' l' then (prs n.toNat (bestF n.toNat l n'.toNat l'), 0) else ([], 50)
theorem bestF_out {m m' : Nat} {l l' : List St3} (hm : m ≤ 6) {x : Nat} (hx : m ≤ x) : bestF m l m' l' x = 0 := by
  have key : ∀ (k : Nat) (f : Nat → Nat), f x = 0 → itr (dws (keepN l m' l') m) k f x = 0 := by
    intro k
    induction k with
    | zero => exact fun f h => h
    | succ k ih =>
      intro f h
      refine ih _ ?_
      unfold dws
      refine fold_inv (g := dwx (keepN l m' l')) (P := fun f => f x = 0) (fun f c h => ?_) _ f h
      unfold dwx
      refine fold_inv (g := dwc (keepN l m' l') c) (P := fun f => f x = 0) (fun f y h => ?_) _ f h
      unfold dwc
      cases keepN l m' l' f c y with
      | true => exact h
      | false =>
        show upd f c (clr (f c) y) x = 0
        unfold upd
        by_cases hx : x = c
        · subst hx
          rw [if_pos rfl, h]; simp [clr]
        · rw [if_neg hx]; exact h
  exact key _ _ (by unfold allF; rw [if_neg (by omega)])
theorem prs6 {m m' : Nat} {l l' : List St3} (hm : m ≤ 6) : prs 6 (bestF m l m' l') = prs m (bestF m l m' l') := by
  have h := prs_zero (n := m) (f := bestF m l m' l') (fun i hi => bestF_out hm hi) (6 - m)
  rw [show m + (6 - m) = 6 from by omega] at h
  exact h
theorem R47_eq (n n' : Int) (l l' : List St3) (hl : l.length < Lg) (hl' : l'.length < Lg) : R47 Ar.std n (eSt l) n' (eSt l') = some (ePr (bst n l n' l').1, (bst n l n' l').2) := by
  unfold R47 bst
  rw [R70_eq n n' l l' hl hl', bsome]
  cases hv : vSys n l with
  | false => rfl
  | true =>
    cases hv' : vSys n' l' with
    | false => rfl
    | true =>
      obtain ⟨m, rfl, S⟩ := Sys.of hv
      obtain ⟨m', rfl, S'⟩ := Sys.of hv'
      have e : R90 Ar.std (FR m l (tF m l)) (FR m' l' (tF m' l')) = some (rU (bestF m l m' l')) := R90_eq S S'
      have h6 := R86_eq (f := bestF m l m' l') (lt2 S'.le bestF_inB)
      simp only [cond_true, Int.toNat_natCast, Bool.and_self, Sum.elim_inl]
      rw [e, bsome, h6, bsome, prs6 S.le]
theorem R88a_eq {n : Nat} (hn : n ≤ 6) {f : Nat → Nat} (h : ∀ i, f i < 64) : R88a Ar.std (rI n f) = some (ePr (prs n f)) := by
  have hlen : Ar.std.len (rI n f) = (n : Int) := by rw [std_len, rI_len]
  have key := iter_to (step := R88aL1 Ar.std (rI n f)) n (fun i => (ePr (prs i f), (i : Int))) (ePr (prs n f)) (fun i hi => by
    have hp := prs_len i f
    unfold R88aL1
    dsimp only
    rw [show R88aL0 = R86L0 from rfl, hlen, ltN hi, cond_true, rI_gt _ hi, bsome, R78_eq _ (i62 (h i)), bsome, R86L0_eq i (f i) _ (by omega), bsome, inc (by omega : i < 100) (by decide), prs_succ]) (by
    unfold R88aL1
    dsimp only
    rw [hlen, geN, cond_false])
  unfold R88a
  have e : iter (R88aL1 Ar.std (rI n f)) ([], 0) = some (ePr (prs n f)) := key
  rw [e]; rfl
theorem R50_eq (n n' : Int) (l l' : List St3) (hl : l.length < Lg) (hl' : l'.length < Lg) : R50 Ar.std n (eSt l) n' (eSt l') = some (ePr (bst n l n' l').1, (bst n l n' l').2) := by
  unfold R50 bst
  rw [R34_eq n l hl, bsome]
  cases hv : vSys n l with
  | false => rfl
  | true =>
    rw [cond_true, R34_eq n' l' hl', bsome]
    cases hv' : vSys n' l' with
    | false => rfl
    | true =>
      obtain ⟨m, rfl, S⟩ := Sys.of hv
      obtain ⟨m', rfl, S'⟩ := Sys.of hv'
      rw [Bool.not_true, bsome, cond_false, R100_eq S S' hl, bsome, R88a_eq S.le (lt2 S'.le bestF_inB), bsome]; rfl
def rfn (n : Int) (l : List St3) (n' : Int) (l' : List St3) : Bool × Int :=
  bif vSys n l && vSys n' l' then ((bestF n.toNat l n'.toNat l' 0).testBit 0, 0) else (false, 50)
theorem R91_eq {a i : Nat} (ha : a < 64) (hi : i < 6) : R91 Ar.std (a : Int) (i : Int) = some (a.testBit i) := by
  unfold R91
  rw [nkN, bsome]
  have h := has_u8 a i (by omega) (by omega)
  simp only [std_zeq, std_bits, std_shr]
  rw [h]
theorem R44_eq (n n' : Int) (l l' : List St3) (hl : l.length < Lg) (hl' : l'.length < Lg) : R44 Ar.std n (eSt l) n' (eSt l') = some (rfn n l n' l') := by
  unfold R44 rfn
  rw [R70_eq n n' l l' hl hl', bsome]
  cases hv : vSys n l with
  | false => rfl
  | true =>
    cases hv' : vSys n' l' with
    | false => rfl
    | true =>
      obtain ⟨m, rfl, S⟩ := Sys.of hv
      obtain ⟨m', rfl, S'⟩ := Sys.of hv'
      have e : R90 Ar.std (FR m l (tF m l)) (FR m' l' (tF m' l')) = some (rU (bestF m l m' l')) := R90_eq S S'
      have h9 : R91 Ar.std ((bestF m l m' l' 0 : Nat) : Int) 0 = some ((bestF m l m' l' 0).testBit 0) := R91_eq (i := 0) (lt2 S'.le bestF_inB 0) (by decide)
      simp only [cond_true, Int.toNat_natCast, Bool.and_self, Sum.elim_inl]
      rw [e, bsome, rU_gc _ (by decide), bsome, h9, bsome]
theorem bit0 {a : Nat} (h : a < 64) : Ar.std.zeq (Ar.std.bits .and .i64 (a : Int) 1) 1 = a.testBit 0 := by
  have h1 : Ar.std.bits .and .i64 (a : Int) 1 = ((a &&& 1 : Nat) : Int) := andI h (by decide)
  rw [h1, std_zeq, Nat.and_one_is_mod, Nat.testBit_zero]
  exact decide_eq_decide.2 (by omega)
theorem bit0' {a : Nat} (h : a < 64) : Ar.std.zeq (Ar.std.bits .and .i64 (a : Int) 1) 0 = !a.testBit 0 := by
  have h1 : Ar.std.bits .and .i64 (a : Int) 1 = ((a &&& 1 : Nat) : Int) := andI h (by decide)
  rw [h1, std_zeq, Nat.and_one_is_mod, Nat.testBit_zero, ← decide_not]
  exact decide_eq_decide.2 (by omega)
theorem R52_eq (n n' : Int) (l l' : List St3) (hl : l.length < Lg) (hl' : l'.length < Lg) : R52 Ar.std n (eSt l) n' (eSt l') = some (rfn n l n' l') := by
  unfold R52 rfn
  rw [R34_eq n l hl, bsome]
  cases hv : vSys n l with
  | false => rfl
  | true =>
    rw [cond_true, R34_eq n' l' hl', bsome]
    cases hv' : vSys n' l' with
    | false => rfl
    | true =>
      obtain ⟨m, rfl, S⟩ := Sys.of hv
      obtain ⟨m', rfl, S'⟩ := Sys.of hv'
      have h0 : 0 < m := by have := S.pos; omega
      rw [Bool.not_true, bsome, cond_false, R100_eq S S' hl, bsome, rI_gc _ h0, bsome, bit0 (lt2 S'.le bestF_inB 0)]; rfl
end Go.Am

set_option maxRecDepth 100000
set_option linter.unusedVariables false
set_option linter.unusedSimpArgs false
set_option linter.unusedSectionVars false
namespace Go.Am
open Go
def keepP (l : List St3) (m' : Nat) (l' : List St3) (f : Nat → Nat) (p : P2) : Bool := keepN l m' l' f p.1.toNat p.2.toNat
def isPr (n : Int) (l : List St3) (n' : Int) (l' : List St3) (r : List P2) : Bool × Int :=
  bif vSys n l && vSys n' l' then bif isRel n.toNat n'.toNat r then (r.all (keepP l n'.toNat l' (relF r)), 0) else (false, 2) else (false, 50)
section
variable {m m' : Nat} {l l' : List St3} (S : Sys m l) (S' : Sys m' l')
include S S'
theorem R98_eq {f : Nat → Nat} (hf : ∀ i, f i < 64) {p : P2} (hp : (0 ≤ p.1 ∧ p.1.toNat < m) ∧ (0 ≤ p.2 ∧ p.2.toNat < m')) : R98 Ar.std p.1 p.2 (FR m l (tF m l)) (FR m' l' (tF m' l')) (rU f) = some (!keepP l m' l' f p) := by
  have hm := S.le
  have h := R99_eq S S' hf (x := p.1.toNat) (y := p.2.toNat) (by omega) hp.2.2
  rw [show ((p.1.toNat : Nat) : Int) = p.1 from by omega, show ((p.2.toNat : Nat) : Int) = p.2 from by omega] at h
  unfold R98
  rw [rU_ga, bsome, h, bsome]; rfl
theorem R97_eq {f : Nat → Nat} (hf : ∀ i, f i < 64) {r : List P2} (hr : r.length < Lg) (hp : ∀ p ∈ r, (0 ≤ p.1 ∧ p.1.toNat < m) ∧ (0 ≤ p.2 ∧ p.2.toNat < m')) :
    R97 Ar.std (ePr r) (FR m l (tF m l)) (FR m' l' (tF m' l')) (rU f) = some (!r.all (keepP l m' l' f)) := by
  have key := iter_find (step := R110L0 Ar.std (ePr r) (FR m l (tF m l)) (FR m' l' (tF m' l')) (rU f)) r (fun p => !keepP l m' l' f p) (fun i => .inr (i : Int)) (.inl ()) (fun i p hi hlt => by
    have hget : gt Ar.std cP (ePr r) (i : Int) = some p := gt_enc hi
    unfold R110L0
    rw [ltS hlt, cond_true, hget, bsome]
    have h98 := R98_eq S S' hf (hp p (List.mem_of_getElem? hi))
    dsimp only
    rw [h98, bsome, inc hlt hr]
    cases keepP l m' l' f p <;> rfl) (by
    unfold R110L0
    rw [geS, cond_false])
  unfold R97 R110
  rw [key, bsome, find_elim, bsome, std_zle, find_le, any_notB]
theorem R48L0_eq {r : List P2} (hr : r.length < Lg) (hp : ∀ p ∈ r, (0 ≤ p.1 ∧ p.1.toNat < m) ∧ (0 ≤ p.2 ∧ p.2.toNat < m')) : iter (R48L0 Ar.std (m : Int) (ePr r)) (0, rI m fun _ => 0) = some (rI m (relF r)) := by
  have hm' := S'.le
  have key := iter_foldI (step := R48L0 Ar.std (m : Int) (ePr r)) r (fun (f : Nat → Nat) i => ((i : Int), rI m f)) putP (rI m) (fun f => ∀ i, f i < 64) (fun i p f hi hlt hI => by
    have hpp := hp p (List.mem_of_getElem? hi)
    refine ⟨?_, putP_lt hI (by omega)⟩
    have hget : gt Ar.std cP (ePr r) (i : Int) = some p := gt_enc hi
    obtain ⟨a, ha⟩ : ∃ a : Nat, p.1 = (a : Int) := ⟨p.1.toNat, by omega⟩
    obtain ⟨b, hb⟩ : ∃ b : Nat, p.2 = (b : Int) := ⟨p.2.toNat, by omega⟩
    have ham : a < m := by have := hpp.1.2; rw [ha] at this; simpa using this
    have hb6 : b < 6 := by have := hpp.2.2; rw [hb] at this; simp at this; omega
    unfold R48L0 putP
    dsimp only
    rw [ltS hlt, cond_true, hget, bsome]
    rw [ha, hb, ckN, bsome, ckL' ham, bsome, zaddZ, rI_gc _ ham, bsome, nkN, bsome, bsome, bsome, rI_lget _ ham, bsome, shlI (by omega), orI (hI a) (pow6 hb6), rI_lset, inc hlt hr]; rfl) (fun s _ => by
    unfold R48L0
    dsimp only
    rw [geS, cond_false]) (fun _ => 0) (fun _ => by decide)
  exact key
theorem R48L1_eq (hl : l.length < Lg) {f : Nat → Nat} (hf : ∀ i, f i < 64) {r : List P2} (hr : r.length < Lg) (hp : ∀ p ∈ r, (0 ≤ p.1 ∧ p.1.toNat < m) ∧ (0 ≤ p.2 ∧ p.2.toNat < m')) :
    iter (R48L1 Ar.std (m : Int) (eSt l) (m' : Int) (eSt l') (ePr r) (rI m f)) 0 = some (bif r.any (fun p => !keepP l m' l' f p) then .inr () else .inl ()) := by
  refine iter_any (step := R48L1 Ar.std (m : Int) (eSt l) (m' : Int) (eSt l') (ePr r) (rI m f)) r (fun p => !keepP l m' l' f p) (.inr ()) (.inl ()) (fun i p hi hlt => ?_) ?_
  · have hget : gt Ar.std cP (ePr r) (i : Int) = some p := gt_enc hi
    have hpp := hp p (List.mem_of_getElem? hi)
    have h := R96_eq S S' hl hf (x := p.1.toNat) (y := p.2.toNat) hpp.2.2
    rw [show ((p.1.toNat : Nat) : Int) = p.1 from by omega, show ((p.2.toNat : Nat) : Int) = p.2 from by omega] at h
    unfold R48L1
    rw [ltS hlt, cond_true, hget, bsome]
    dsimp only
    rw [h, bsome, inc hlt hr]
    show (bif keepP l m' l' f p then _ else _) = _
    cases keepP l m' l' f p <;> rfl
  · unfold R48L1
    rw [geS, cond_false]
end
theorem R49_eq (n n' : Int) (l l' : List St3) (hl : l.length < Lg) (hl' : l'.length < Lg) (r : List P2) (hr : r.length < Lg) : R49 Ar.std n (eSt l) n' (eSt l') (ePr r) = some (isPr n l n' l' r) := by
  unfold R49 isPr
  rw [R70_eq n n' l l' hl hl', bsome]
  cases hv : vSys n l with
  | false => rfl
  | true =>
    cases hv' : vSys n' l' with
    | false => rfl
    | true =>
      obtain ⟨m, rfl, S⟩ := Sys.of hv
      obtain ⟨m', rfl, S'⟩ := Sys.of hv'
      obtain ⟨f, h1, h2⟩ := R85_eq (m := m) (n := m') ⟨S.pos, S.le⟩ ⟨S'.pos, S'.le⟩ r hr
      simp only [cond_true, Int.toNat_natCast, Bool.and_self, Sum.elim_inl]
      rw [h1, bsome]
      dsimp only
      rw [rU_len, bsome, rU_room, bsome]
      cases hv2 : isRel m m' r with
      | false => rfl
      | true =>
        have hok := isRel_ok hv2
        rw [h2 hv2, cond_true, cond_true, rU_spl, R97_eq S S' (relF_lt6 S'.le hv2) hr hok, bsome, Bool.not_not]
theorem R48_eq (n n' : Int) (l l' : List St3) (hl : l.length < Lg) (hl' : l'.length < Lg) (r : List P2) (hr : r.length < Lg) : R48 Ar.std n (eSt l) n' (eSt l') (ePr r) = some (isPr n l n' l' r) := by
  unfold R48 isPr
  rw [R34_eq n l hl, bsome]
  cases hv : vSys n l with
  | false => rfl
  | true =>
    rw [cond_true, R34_eq n' l' hl', bsome]
    cases hv' : vSys n' l' with
    | false => rfl
    | true =>
      obtain ⟨m, rfl, S⟩ := Sys.of hv
      obtain ⟨m', rfl, S'⟩ := Sys.of hv'
      rw [Bool.not_true, bsome, cond_false, R87_eq r hr, bsome, Bool.and_self, cond_true, Int.toNat_natCast, Int.toNat_natCast]
      cases hv2 : isRel m m' r with
      | false => rfl
      | true =>
        have hok := isRel_ok hv2
        rw [cond_true, ckS, bsome, zle0, bsome, fits6 S.le, bsome, rI_rep, R48L0_eq S S' hr hok, bsome, R48L1_eq S S' hl (relF_lt6 S'.le hv2) hr hok, bsome, any_notB]
        cases r.all (keepP l m' l' (relF r)) <;> rfl
end Go.Am

set_option maxRecDepth 100000
set_option linter.unusedVariables false
set_option linter.unusedSimpArgs false
set_option linter.unusedSectionVars false
namespace Go.Am
open Go
def mem2 (f : Nat → Nat) (x y : Nat) : Prop := (f x).testBit y = true
theorem subF_mem {f g : Nat → Nat} (h : subF f g) {x y : Nat} (hm : mem2 f x y) : mem2 g x y := (h x).test hm
theorem subF_of {f g : Nat → Nat} (h : ∀ x y, mem2 f x y → mem2 g x y) : subF f g := fun x => by
  refine Nat.eq_of_testBit_eq fun z => ?_
  rw [Nat.testBit_or]
  cases hz : (f x).testBit z with
  | false => rfl
  | true => rw [show (g x).testBit z = true from h x z hz]; rfl
theorem subF.refl (f : Nat → Nat) : subF f f := fun x => Wi.refl _
theorem subF.trans {f g h : Nat → Nat} (a : subF f g) (b : subF g h) : subF f h := fun x => (a x).trans (b x)
theorem subF.antisymm {f g : Nat → Nat} (a : subF f g) (b : subF g f) : f = g := funext fun x => (a x).antisymm (b x)
def addF (f : Nat → Nat) (x y : Nat) : Nat → Nat := upd f x (f x ||| 2 ^ y)
theorem addF_mem (f : Nat → Nat) (x y a b : Nat) : mem2 (addF f x y) a b ↔ mem2 f a b ∨ (a = x ∧ b = y) := by
  unfold mem2 addF upd
  by_cases h : a = x
  · subst h
    rw [if_pos rfl, Nat.testBit_or, Nat.testBit_two_pow]
    simp only [Bool.or_eq_true, decide_eq_true_eq, true_and]
    constructor <;> rintro (h | h) <;> first | exact .inl h | exact .inr h.symm
  · rw [if_neg h]
    constructor
    · exact .inl
    · rintro (h' | h')
      · exact h'
      · exact absurd h'.1 h
theorem addF_sub (f : Nat → Nat) (x y : Nat) : subF f (addF f x y) := subF_of fun a b h => (addF_mem f x y a b).2 (.inl h)
theorem addF_lt {f : Nat → Nat} {n x y : Nat} (h : ∀ i, f i < 2 ^ n) (hy : y < n) (i : Nat) : addF f x y i < 2 ^ n := by
  unfold addF upd
  split
  · exact or_lt (h x) (Nat.pow_lt_pow_right (by decide) hy)
  · exact h i
theorem card_mono {a b : Nat} (h : Wi a b) : card 6 a ≤ card 6 b := countP_le (fun z hz => h.test hz) _
theorem size_mono {f g : Nat → Nat} (h : subF f g) : sizeF f ≤ sizeF g := by
  unfold sizeF
  have := card_mono (h 0); have := card_mono (h 1); have := card_mono (h 2); have := card_mono (h 3); have := card_mono (h 4); have := card_mono (h 5)
  omega
theorem card_lt {a b y : Nat} (h : Wi a b) (hy : y < 6) (ha : a.testBit y = false) (hb : b.testBit y = true) : card 6 a < card 6 b :=
  countP_lt (fun z hz => h.test hz) (List.mem_range.2 hy) ha hb
theorem size_lt {f g : Nat → Nat} (h : subF f g) {x y : Nat} (hx : x < 6) (hy : y < 6) (hf : (f x).testBit y = false) (hg : mem2 g x y) : sizeF f < sizeF g := by
  have c := card_lt (h x) hy hf hg
  have := card_mono (h 0); have := card_mono (h 1); have := card_mono (h 2); have := card_mono (h 3); have := card_mono (h 4); have := card_mono (h 5)
  unfold sizeF
  match x, hx with
  | 0, _ => omega
  | 1, _ => omega
  | 2, _ => omega
  | 3, _ => omega
  | 4, _ => omega
  | 5, _ => omega
section
variable (m' : Nat) (l' : List St3) (r : Nat → Nat)
def nx (y : Nat) (z : St3) : Nat := Lib.trailingZeros8 (r z.2.2.toNat &&& comesN m' l' (2 ^ y) z.2.1)
def Clo (l : List St3) (h : Nat → Nat) : Prop := ∀ (x y : Nat) (z : St3), z ∈ l → z.1 = (x : Int) → mem2 h x y → mem2 h z.2.2.toNat (nx m' l' r y z)
structure Least (l : List St3) (g : Nat → Nat) : Prop where
  clo : Clo m' l' r l g
  fst : mem2 g 0 0
  min : ∀ h, Clo m' l' r l h → mem2 h 0 0 → subF g h
theorem Least.same {l : List St3} {g g' : Nat → Nat} (h : Least m' l' r l g) (h' : Least m' l' r l g') : g = g' :=
  (h.min g' h'.clo h'.fst).antisymm (h'.min g h.clo h.fst)
end
theorem tz_bl {s : Nat} (h : s < 64) (h0 : s ≠ 0) : bl s = Lib.trailingZeros8 s :: bl (s &&& (s - 1)) := bl_step ⟨s, h⟩ h0
theorem tz_mem {s : Nat} (h : s < 64) (h0 : s ≠ 0) : s.testBit (Lib.trailingZeros8 s) = true ∧ Lib.trailingZeros8 s < 6 := by
  have := tz_bl h h0
  have hm : Lib.trailingZeros8 s ∈ bl s := by rw [this]; exact List.mem_cons_self
  exact ⟨(mem_bl.1 hm).2, (mem_bl.1 hm).1⟩
section
variable {m m' : Nat} {l l' : List St3}
theorem keep_ne {f : Nat → Nat} {x y : Nat} (h : keepN l m' l' f x y = true) {z : St3} (hz : z ∈ l) (hx : z.1 = (x : Int)) : f z.2.2.toNat &&& comesN m' l' (2 ^ y) z.2.1 ≠ 0 := by
  unfold keepN at h
  rw [Bool.not_eq_true', Bool.eq_false_iff] at h
  intro h0
  refine h (List.any_eq_true.2 ⟨z, hz, ?_⟩)
  unfold badK
  rw [decide_eq_true hx, Nat.and_comm, decide_eq_true h0]; rfl
theorem bestF_pf (S : Sys m l) (S' : Sys m' l') : isPf (keepN l m' l') m (bestF m l m' l') := by
  have hm := S.le
  have hm' := S'.le
  have hsz : sizeF (allF m m') ≤ m * m' := allF_size ⟨m, by omega⟩ ⟨m', by omega⟩
  have hfix := dws_fix (K := keepN l m' l') hm (m * m') (f := allF m m') (lt2 hm' allF_inB) hsz
  exact (sws_ch hm (lt2 hm' bestF_inB)).2 hfix
theorem and_lt {a b n : Nat} (h : a < 2 ^ n) : a &&& b < 2 ^ n := Nat.lt_of_le_of_lt Nat.and_le_left h
theorem best_nx (S : Sys m l) (S' : Sys m' l') {x y : Nat} (h : mem2 (bestF m l m' l') x y) {z : St3} (hz : z ∈ l) (hx : z.1 = (x : Int)) :
    bestF m l m' l' z.2.2.toNat &&& comesN m' l' (2 ^ y) z.2.1 ≠ 0 ∧ mem2 (bestF m l m' l') z.2.2.toNat (nx m' l' (bestF m l m' l') y z) ∧ nx m' l' (bestF m l m' l') y z < m' := by
  have hm := S.le
  have hm' := S'.le
  have hxm : x < m := by
    rcases Nat.lt_or_ge x m with h1 | h1
    · exact h1
    · have := bestF_out (l := l) (m' := m') (l' := l') hm h1
      unfold mem2 at h
      rw [this] at h; simp at h
  have hy : y < m' := by
    rcases Nat.lt_or_ge y m' with h1 | h1
    · exact h1
    · have hb : bestF m l m' l' x < 2 ^ m' := bestF_inB x
      have : (bestF m l m' l' x).testBit y = false := Nat.testBit_lt_two_pow (Nat.lt_of_lt_of_le hb (Nat.pow_le_pow_right (by decide) h1))
      unfold mem2 at h
      rw [this] at h; cases h
  have hk := bestF_pf S S' x hxm y (mem_bl.2 ⟨by omega, h⟩)
  have hne := keep_ne hk hz hx
  have hlt : bestF m l m' l' z.2.2.toNat &&& comesN m' l' (2 ^ y) z.2.1 < 2 ^ m' := and_lt (bestF_inB _)
  have ht := tz_mem (lt64 hm' hlt) hne
  refine ⟨hne, ?_, ?_⟩
  · have := ht.1
    rw [Nat.testBit_and, Bool.and_eq_true] at this
    exact this.1
  · exact bl_lt hlt (mem_bl.2 ⟨ht.2, ht.1⟩)
theorem best_clo (S : Sys m l) (S' : Sys m' l') : Clo m' l' (bestF m l m' l') l (bestF m l m' l') := fun x y z hz hx h => (best_nx S S' h hz hx).2.1
def dn (m' : Nat) (l' : List St3) (r : Nat → Nat) (x y : Nat) (f : Nat → Nat) (z : St3) : Nat → Nat := bif decide (z.1 = (x : Int)) then addF f z.2.2.toNat (nx m' l' r y z) else f
def dn1 (l : List St3) (m' : Nat) (l' : List St3) (r : Nat → Nat) (x : Nat) (f : Nat → Nat) (y : Nat) : Nat → Nat := l.foldl (dn m' l' r x y) f
def dn2 (l : List St3) (m' : Nat) (l' : List St3) (r : Nat → Nat) (f : Nat → Nat) (x : Nat) : Nat → Nat := (bl (f x)).foldl (dn1 l m' l' r x) f
def dn3 (m : Nat) (l : List St3) (m' : Nat) (l' : List St3) (r : Nat → Nat) (f : Nat → Nat) : Nat → Nat := (List.range m).foldl (dn2 l m' l' r) f
theorem fold_sub {γ : Type} {g : (Nat → Nat) → γ → (Nat → Nat)} (hg : ∀ f c, subF f (g f c)) : ∀ (l : List γ) (f : Nat → Nat), subF f (l.foldl g f)
  | [], f => subF.refl f
  | c :: l, f => (hg f c).trans (fold_sub hg l (g f c))
theorem dn_sub (r : Nat → Nat) (x y : Nat) (f : Nat → Nat) (z : St3) : subF f (dn m' l' r x y f z) := by
  unfold dn
  cases decide (z.1 = (x : Int)) with
  | true => exact addF_sub _ _ _
  | false => exact subF.refl f
theorem dn1_sub (r : Nat → Nat) (x : Nat) (f : Nat → Nat) (y : Nat) : subF f (dn1 l m' l' r x f y) := fold_sub (fun f z => dn_sub r x y f z) _ f
theorem dn2_sub (r : Nat → Nat) (f : Nat → Nat) (x : Nat) : subF f (dn2 l m' l' r f x) := fold_sub (fun f y => dn1_sub r x f y) _ f
theorem dn3_sub (r : Nat → Nat) (f : Nat → Nat) : subF f (dn3 m l m' l' r f) := fold_sub (fun f x => dn2_sub r f x) _ f
theorem dn1_has (r : Nat → Nat) (x y : Nat) : ∀ (l : List St3) (f : Nat → Nat) {z : St3}, z ∈ l → z.1 = (x : Int) → mem2 (l.foldl (dn m' l' r x y) f) z.2.2.toNat (nx m' l' r y z)
  | w :: l, f, z, hz, hx => by
    rw [List.foldl_cons]
    rcases List.mem_cons.1 hz with rfl | hz
    · refine subF_mem (fold_sub (fun f z => dn_sub r x y f z) l _) ?_
      unfold dn
      rw [decide_eq_true hx, cond_true]
      exact (addF_mem _ _ _ _ _).2 (.inr ⟨rfl, rfl⟩)
    · exact dn1_has r x y l _ hz hx
theorem dn2_has (r : Nat → Nat) (x : Nat) : ∀ (ys : List Nat) (f : Nat → Nat) {y : Nat} {z : St3}, y ∈ ys → z ∈ l → z.1 = (x : Int) → mem2 (ys.foldl (dn1 l m' l' r x) f) z.2.2.toNat (nx m' l' r y z)
  | w :: ys, f, y, z, hy, hz, hx => by
    rw [List.foldl_cons]
    rcases List.mem_cons.1 hy with rfl | hy
    · exact subF_mem (fold_sub (fun f z => dn1_sub r x f z) ys _) (dn1_has r x y l f hz hx)
    · exact dn2_has r x ys _ hy hz hx
theorem dn3_has (r : Nat → Nat) : ∀ (xs : List Nat) (f : Nat → Nat) {x y : Nat} {z : St3}, x ∈ xs → y < 6 → mem2 f x y → z ∈ l → z.1 = (x : Int) → mem2 (xs.foldl (dn2 l m' l' r) f) z.2.2.toNat (nx m' l' r y z)
  | w :: xs, f, x, y, z, hxs, hy, hm, hz, hx => by
    rw [List.foldl_cons]
    rcases List.mem_cons.1 hxs with rfl | hxs
    · exact subF_mem (fold_sub (fun f z => dn2_sub r f z) xs _) (dn2_has r x _ f (mem_bl.2 ⟨hy, hm⟩) hz hx)
    · exact dn3_has r xs _ hxs hy (subF_mem (dn2_sub r f w) hm) hz hx
theorem fold_in {γ : Type} {h : Nat → Nat} {g : (Nat → Nat) → γ → (Nat → Nat)} : ∀ (l : List γ) (f : Nat → Nat), (∀ f, ∀ c ∈ l, subF f h → subF (g f c) h) → subF f h → subF (l.foldl g f) h
  | [], f, _, hf => hf
  | c :: l, f, hg, hf => fold_in l (g f c) (fun f d hd => hg f d (by simp [hd])) (hg f c (by simp) hf)
theorem dn3_in {r h : Nat → Nat} (hc : Clo m' l' r l h) {f : Nat → Nat} (hf : subF f h) : subF (dn3 m l m' l' r f) h := by
  refine fold_in _ f (fun f x _ hf => ?_) hf
  unfold dn2
  refine fold_in (g := dn1 l m' l' r x) _ f (fun g y hy hg => ?_) hf
  refine fold_in (g := dn m' l' r x y) _ g (fun k z hz hk => ?_) hg
  unfold dn
  by_cases hx : z.1 = (x : Int)
  · rw [decide_eq_true hx, cond_true]
    refine subF_of fun a b hab => ?_
    rcases (addF_mem _ _ _ _ _).1 hab with h1 | ⟨rfl, rfl⟩
    · exact subF_mem hk h1
    · exact hc x y z hz hx (subF_mem hf (mem_bl.1 hy).2)
  · rw [decide_eq_false hx]; exact hk
def ownF (m : Nat) (l : List St3) (m' : Nat) (l' : List St3) : Nat → Nat := itr (dn3 m l m' l' (bestF m l m' l')) (m * m') (addF (fun _ => 0) 0 0)
theorem mem_lt6 {h : Nat → Nat} {x y : Nat} (hh : ∀ i, h i < 64) (hm : mem2 h x y) : y < 6 := by
  rcases Nat.lt_or_ge y 6 with h1 | h1
  · exact h1
  · unfold mem2 at hm
    rw [high_false (hh x) h1] at hm; cases hm
theorem own_grow (S : Sys m l) (S' : Sys m' l') : ∀ (n : Nat) (f : Nat → Nat), subF f (bestF m l m' l') →
    Clo m' l' (bestF m l m' l') l (itr (dn3 m l m' l' (bestF m l m' l')) n f) ∨ sizeF f + n ≤ sizeF (itr (dn3 m l m' l' (bestF m l m' l')) n f)
  | 0, f, _ => .inr (Nat.le_refl _)
  | n + 1, f, hf => by
    have hm := S.le
    have hm' := S'.le
    rw [itr]
    have hF := dn3_in (m := m) (best_clo S S') hf
    by_cases hsz : sizeF f < sizeF (dn3 m l m' l' (bestF m l m' l') f)
    · rcases own_grow S S' n _ hF with h | h
      · exact .inl h
      · exact .inr (by omega)
    · have hsub := dn3_sub (m := m) (l := l) (m' := m') (l' := l') (bestF m l m' l') f
      have heq : dn3 m l m' l' (bestF m l m' l') f = f := by
        refine subF.antisymm (subF_of fun a b hab => ?_) hsub
        have hb := subF_mem hF hab
        have hb6 := mem_lt6 (lt2 hm' bestF_inB) hb
        have ha : a < 6 := by
          rcases Nat.lt_or_ge a 6 with h1 | h1
          · exact h1
          · unfold mem2 at hb
            rw [bestF_out (l := l) (m' := m') (l' := l') hm (by omega : m ≤ a)] at hb; simp at hb
        cases hfa : (f a).testBit b with
        | true => exact hfa
        | false => exact absurd (size_lt hsub ha hb6 hfa hab) hsz
      rw [heq, itr_fix heq]
      refine .inl fun x y z hz hx hmm => ?_
      have hb := subF_mem hf hmm
      have hxm : x < m := by
        rcases Nat.lt_or_ge x m with h1 | h1
        · exact h1
        · unfold mem2 at hb
          rw [bestF_out (l := l) (m' := m') (l' := l') hm h1] at hb; simp at hb
      have := dn3_has (m' := m') (l' := l') (bestF m l m' l') (List.range m) f (List.mem_range.2 hxm) (mem_lt6 (lt2 hm' bestF_inB) hb) hmm hz hx
      have e : (List.range m).foldl (dn2 l m' l' (bestF m l m' l')) f = f := heq
      rw [e] at this
      exact this
theorem own_least (S : Sys m l) (S' : Sys m' l') (h0 : mem2 (bestF m l m' l') 0 0) : Least m' l' (bestF m l m' l') l (ownF m l m' l') := by
  have hm := S.le
  have hm' := S'.le
  have hs0 : subF (addF (fun _ => 0) 0 0) (bestF m l m' l') := subF_of fun a b h => by
    rcases (addF_mem _ _ _ _ _).1 h with h1 | ⟨rfl, rfl⟩
    · unfold mem2 at h1; simp at h1
    · exact h0
  have hup : ∀ (n : Nat) (f : Nat → Nat), subF f (itr (dn3 m l m' l' (bestF m l m' l')) n f) := by
    intro n
    induction n with
    | zero => exact subF.refl
    | succ n ih => exact fun f => (dn3_sub _ f).trans (ih _)
  have hin : ∀ (n : Nat) (h f : Nat → Nat), Clo m' l' (bestF m l m' l') l h → subF f h → subF (itr (dn3 m l m' l' (bestF m l m' l')) n f) h := by
    intro n h
    induction n with
    | zero => exact fun f _ h => h
    | succ n ih => exact fun f hc hf => ih _ hc (dn3_in hc hf)
  refine ⟨?_, subF_mem (hup _ _) ((addF_mem _ _ _ _ _).2 (.inr ⟨rfl, rfl⟩)), fun h hc hh => hin _ h _ hc (subF_of fun a b hab => ?_)⟩
  · rcases own_grow S S' (m * m') _ hs0 with h | h
    · exact h
    · have h1 : sizeF (ownF m l m' l') ≤ m * m' := by
        have hsz : sizeF (allF m m') ≤ m * m' := allF_size ⟨m, by omega⟩ ⟨m', by omega⟩
        refine Nat.le_trans (size_mono ((hin _ _ _ (best_clo S S') hs0).trans (subF_of fun x y hxy => ?_))) hsz
        have hy : y < m' := by
          rcases Nat.lt_or_ge y m' with h1 | h1
          · exact h1
          · have hb : bestF m l m' l' x < 2 ^ m' := bestF_inB x
            unfold mem2 at hxy
            rw [Nat.testBit_lt_two_pow (Nat.lt_of_lt_of_le hb (Nat.pow_le_pow_right (by decide) h1))] at hxy; cases hxy
        have hx : x < m := by
          rcases Nat.lt_or_ge x m with h1 | h1
          · exact h1
          · unfold mem2 at hxy
            rw [bestF_out (l := l) (m' := m') (l' := l') hm h1] at hxy; simp at hxy
        unfold mem2 allF
        rw [if_pos hx, Nat.testBit_two_pow_sub_one]; exact decide_eq_true hy
      have h2 : 0 < sizeF (addF (fun _ => 0) 0 0) := by decide
      unfold ownF at h1
      omega
  · rcases (addF_mem _ _ _ _ _).1 hab with h1 | ⟨rfl, rfl⟩
    · unfold mem2 at h1; simp at h1
    · exact hh
end
end Go.Am

set_option maxRecDepth 100000
set_option linter.unusedVariables false
set_option linter.unusedSimpArgs false
set_option linter.unusedSectionVars false
namespace Go.Am
open Go
section
variable {m m' : Nat} {l l' : List St3}
theorem subF_lt {f : Nat → Nat} (h : subF f (bestF m l m' l')) (i : Nat) : f i < 2 ^ m' := Nat.lt_of_le_of_lt (h i).le (bestF_inB i)
theorem dn_in {r : Nat → Nat} (hc : Clo m' l' r l r) {x y : Nat} (hxy : mem2 r x y) {f : Nat → Nat} (hf : subF f r) {z : St3} (hz : z ∈ l) : subF (dn m' l' r x y f z) r := by
  unfold dn
  by_cases hx : z.1 = (x : Int)
  · rw [decide_eq_true hx, cond_true]
    refine subF_of fun a b hab => ?_
    rcases (addF_mem _ _ _ _ _).1 hab with h1 | ⟨rfl, rfl⟩
    · exact subF_mem hf h1
    · exact hc x y z hz hx hxy
  · rw [decide_eq_false hx]; exact hf
theorem dn1_in {r : Nat → Nat} (hc : Clo m' l' r l r) {x y : Nat} (hxy : mem2 r x y) {f : Nat → Nat} (hf : subF f r) : subF (dn1 l m' l' r x f y) r :=
  fold_in (g := dn m' l' r x y) _ f (fun k z hz hk => dn_in hc hxy hk hz) hf
theorem dn2_in {r : Nat → Nat} (hc : Clo m' l' r l r) {x : Nat} {f : Nat → Nat} (hf : subF f r) : subF (dn2 l m' l' r f x) r :=
  fold_in (g := dn1 l m' l' r x) _ f (fun k y hy hk => dn1_in hc (subF_mem hf (mem_bl.1 hy).2) hk) hf
theorem list0 {s : Nat} (h : s < 64) (h0 : s ≠ 0) : gc Ar.std (cI .i64) (eInt (cNs (bl s))) 0 = some ((Lib.trailingZeros8 s : Nat) : Int) := by
  rw [tz_bl h h0]; rfl
theorem R51L0_eq (S : Sys m l) (S' : Sys m' l') (hl : l.length < Lg) {x y : Nat} (hxy : mem2 (bestF m l m' l') x y) (f0 : Nat → Nat) (h0 : subF f0 (bestF m l m' l')) :
    iter (R51L0 Ar.std (m : Int) (eSt l) (m' : Int) (eSt l') (rI m (bestF m l m' l')) (x : Int) (y : Int)) (0, rI m f0) = some (rI m (dn1 l m' l' (bestF m l m' l') x f0 y)) := by
  have hm := S.le
  have hm' := S'.le
  have key := iter_foldI (step := R51L0 Ar.std (m : Int) (eSt l) (m' : Int) (eSt l') (rI m (bestF m l m' l')) (x : Int) (y : Int)) l (fun (f : Nat → Nat) i => ((i : Int), rI m f)) (dn m' l' (bestF m l m' l') x y) (rI m) (fun f => subF f (bestF m l m' l')) (fun i z f hz hi hI => by
    have hzl := List.mem_of_getElem? hz
    refine ⟨?_, dn_in (best_clo S S') hxy hI hzl⟩
    have hget : gt Ar.std cSt (eSt l) (i : Int) = some z := gt_enc hz
    have hok := S.ok.2 z hzl
    have hB := S.sb z hzl
    obtain ⟨t, ht⟩ : ∃ t : Nat, z.2.2 = (t : Int) := ⟨z.2.2.toNat, by omega⟩
    have htm : t < m := by rw [ht] at hB; simpa using hB
    have hy : y < m' := bl_lt (bestF_inB x) (mem_bl.2 ⟨mem_lt6 (lt2 hm' bestF_inB) hxy, hxy⟩)
    have hpy : 2 ^ y < 2 ^ m' := Nat.pow_lt_pow_right (by decide) hy
    have hc64 : comesN m' l' (2 ^ y) z.2.1 < 64 := lt64 hm' (comesN_ltB S'.sb hpy _)
    have h74 := R74_eq (m' : Int) (by omega) (by omega) S'.ok (2 ^ y) (lt64 hm' hpy) z.2.1
    have hin : (bif Ar.std.zeq z.1 (x : Int) then (ck (Ar.std.zle 0 z.2.2)).bind fun _ => (ck (Ar.std.zlt z.2.2 (m : Int))).bind fun _ => (gc Ar.std (cI .i64) (rI m f) (Ar.std.nat (Ar.std.zadd 0 z.2.2))).bind fun a746 => (nk (Ar.std.zlt (y : Int) 0)).bind fun _ =>
        (R74 Ar.std (m' : Int) (eSt l') (Ar.std.shl .i64 1 (y : Int)) z.2.1).bind fun r752 => (gt Ar.std (cI .i64) (rI m (bestF m l m' l')) z.2.2).bind fun a753 => (R78 Ar.std (Ar.std.bits .and .i64 r752 a753)).bind fun r758 => (gc Ar.std (cI .i64) r758 0).bind fun a759 =>
        (nk (Ar.std.zlt a759 0)).bind fun _ => (ck (Ar.std.zle 0 z.2.2)).bind fun _ => (ck (Ar.std.zlt z.2.2 (m : Int))).bind fun _ => (Ar.std.lget (rI m f) (Ar.std.nat (Ar.std.zadd 0 z.2.2))).bind fun d768 =>
        some (Ar.std.lset (rI m f) (Ar.std.nat (Ar.std.zadd 0 z.2.2)) (.int .i64 (Ar.std.bits .or .i64 a746 (Ar.std.shl .i64 1 a759)))) else some (rI m f)) = some (rI m (dn m' l' (bestF m l m' l') x y f z)) := by
      unfold dn
      rw [std_zeq]
      by_cases hx : z.1 = (x : Int)
      · obtain ⟨hne, _, hnx⟩ := best_nx S S' hxy hzl hx
        have hnx6 : nx m' l' (bestF m l m' l') y z < 6 := by omega
        have hlt : bestF m l m' l' z.2.2.toNat &&& comesN m' l' (2 ^ y) z.2.1 < 64 := lt64 hm' (and_lt (bestF_inB _))
        have hz0 := list0 hlt hne
        have hR := R78_eq _ (i62 hlt)
        have hnxe : Lib.trailingZeros8 (bestF m l m' l' z.2.2.toNat &&& comesN m' l' (2 ^ y) z.2.1) = nx m' l' (bestF m l m' l') y z := rfl
        rw [hnxe] at hz0
        have htt : z.2.2.toNat = t := by omega
        rw [htt] at hz0 hR hlt
        rw [decide_eq_true hx, cond_true, cond_true, ht, ckN, bsome, ckL' htm, bsome, zaddZ, rI_gc _ htm, bsome, nkN, bsome, shlI (by omega), h74, bsome, rI_gt _ htm, bsome, andI hc64 (lt2 hm' bestF_inB t), Nat.and_comm, hR, bsome, hz0, bsome, nkN, bsome, bsome, bsome, rI_lget _ htm, bsome, shlI (by omega), orI (lt2 hm' (subF_lt hI) t) (pow6 hnx6), rI_lset]
        unfold addF
        rw [show (t : Int).toNat = t from by omega]
      · rw [decide_eq_false hx]; rfl
    unfold R51L0
    dsimp only
    rw [ltS hi, cond_true, hget, bsome]
    rw [hin, bsome, inc hi hl]) (fun s _ => by
    unfold R51L0
    dsimp only
    rw [geS, cond_false]) f0 h0
  exact key
theorem R51L1_eq (S : Sys m l) (S' : Sys m' l') (hl : l.length < Lg) {x : Nat} (f0 : Nat → Nat) (h0 : subF f0 (bestF m l m' l')) :
    iter (R51L1 Ar.std (m : Int) (eSt l) (m' : Int) (eSt l') (rI m (bestF m l m' l')) (x : Int) (eInt (cNs (bl (f0 x))))) (0, rI m f0) = some (rI m (dn2 l m' l' (bestF m l m' l') f0 x)) := by
  have hb := bl_len (f0 x)
  have key := iter_foldI (step := R51L1 Ar.std (m : Int) (eSt l) (m' : Int) (eSt l') (rI m (bestF m l m' l')) (x : Int) (eInt (cNs (bl (f0 x))))) (bl (f0 x)) (fun (f : Nat → Nat) i => ((i : Int), rI m f)) (dn1 l m' l' (bestF m l m' l') x) (rI m) (fun f => subF f (bestF m l m' l')) (fun i y f hy hi hI => by
    have hxy : mem2 (bestF m l m' l') x y := subF_mem h0 (mem_bl.1 (List.mem_of_getElem? hy)).2
    refine ⟨?_, dn1_in (best_clo S S') hxy hI⟩
    have hlt : Ar.std.zlt (i : Int) (Ar.std.len (eInt (cNs (bl (f0 x))))) = true := by rw [eIc_len]; exact ltN hi
    have hgt : gt Ar.std (cI .i64) (eInt (cNs (bl (f0 x)))) (i : Int) = some (y : Int) := gt_enc (cNs_get hy)
    unfold R51L1
    dsimp only
    rw [hlt, cond_true, hgt, bsome, R51L0_eq S S' hl hxy f hI, bsome, inc (by omega : i < 100) (by decide)]) (fun s _ => by
    unfold R51L1
    dsimp only
    rw [show Ar.std.zlt ((bl (f0 x)).length : Int) (Ar.std.len (eInt (cNs (bl (f0 x))))) = false from by rw [eIc_len]; exact geN _, cond_false]) f0 h0
  exact key
theorem R51L2_eq (S : Sys m l) (S' : Sys m' l') (hl : l.length < Lg) (f0 : Nat → Nat) (h0 : subF f0 (bestF m l m' l')) :
    iter (R51L2 Ar.std (m : Int) (eSt l) (m' : Int) (eSt l') (rI m (bestF m l m' l'))) (0, rI m f0) = some (rI m (dn3 m l m' l' (bestF m l m' l') f0)) := by
  have hm := S.le
  have hm' := S'.le
  have key := iter_foldI (step := R51L2 Ar.std (m : Int) (eSt l) (m' : Int) (eSt l') (rI m (bestF m l m' l'))) (List.range m) (fun (f : Nat → Nat) i => ((i : Int), rI m f)) (dn2 l m' l' (bestF m l m' l')) (rI m) (fun f => subF f (bestF m l m' l')) (fun i x f hx hi hI => by
    refine ⟨?_, dn2_in (best_clo S S') hI⟩
    obtain ⟨rfl, hi⟩ := range_get hx
    unfold R51L2
    dsimp only
    rw [ltN hi, cond_true, ckN, bsome, ck_true, bsome, zaddZ, rI_gc _ hi, bsome, R78_eq _ (i62 (lt2 hm' (subF_lt hI) x)), bsome, R51L1_eq S S' hl f hI, bsome, inc (by omega : x < 100) (by decide)]) (fun s _ => by
    unfold R51L2
    dsimp only
    rw [List.length_range, geN, cond_false]) f0 h0
  exact key
theorem R51L3_eq (S : Sys m l) (S' : Sys m' l') (hl : l.length < Lg) (f0 : Nat → Nat) (h0 : subF f0 (bestF m l m' l')) :
    iter (R51L3 Ar.std (m : Int) (eSt l) (m' : Int) (eSt l') (rI m (bestF m l m' l'))) (0, rI m f0) = some (rI m (itr (dn3 m l m' l' (bestF m l m' l')) (m * m') f0)) := by
  have hm := S.le
  have hm' := S'.le
  have hmm : m * m' ≤ 36 := Nat.le_trans (Nat.mul_le_mul hm hm') (by decide)
  have hmul : Ar.std.wrp .i64 (Ar.std.zmul (m : Int) (m' : Int)) = ((m * m' : Nat) : Int) := by
    rw [std_wrp, std_zmul, ← Int.natCast_mul, i64w _ (by omega) (by omega)]
  have hin : ∀ (n : Nat) (f : Nat → Nat), subF f (bestF m l m' l') → subF (itr (dn3 m l m' l' (bestF m l m' l')) n f) (bestF m l m' l') := by
    intro n
    induction n with
    | zero => exact fun f h => h
    | succ n ih => exact fun f hf => ih _ (dn3_in (best_clo S S') hf)
  have k3 := iter_to (step := R51L3 Ar.std (m : Int) (eSt l) (m' : Int) (eSt l') (rI m (bestF m l m' l'))) (m * m') (fun i => ((i : Int), rI m (itr (dn3 m l m' l' (bestF m l m' l')) i f0))) (rI m (itr (dn3 m l m' l' (bestF m l m' l')) (m * m') f0)) (fun i hi => by
    unfold R51L3
    dsimp only
    rw [hmul, ltN hi, cond_true, R51L2_eq S S' hl _ (hin i f0 h0), bsome, inc (by omega : i < 100) (by decide), itr_succ]) (by
    unfold R51L3
    dsimp only
    rw [hmul, geN, cond_false])
  exact k3
end
def prf (n : Int) (l : List St3) (n' : Int) (l' : List St3) : List P2 × Int :=
  bif vSys n l && vSys n' l' then bif (bestF n.toNat l n'.toNat l' 0).testBit 0 then (prs n.toNat (ownF n.toNat l n'.toNat l'), 0) else ([], 5) else ([], 50)
theorem own_in {m m' : Nat} {l l' : List St3} (S : Sys m l) (S' : Sys m' l') (h0 : mem2 (bestF m l m' l') 0 0) : subF (ownF m l m' l') (bestF m l m' l') := (own_least S S' h0).min _ (best_clo S S') h0
theorem R51_eq (n n' : Int) (l l' : List St3) (hl : l.length < Lg) (hl' : l'.length < Lg) : R51 Ar.std n (eSt l) n' (eSt l') = some (ePr (prf n l n' l').1, (prf n l n' l').2) := by
  unfold R51 prf
  rw [R34_eq n l hl, bsome]
  cases hv : vSys n l with
  | false => rfl
  | true =>
    rw [cond_true, R34_eq n' l' hl', bsome]
    cases hv' : vSys n' l' with
    | false => rfl
    | true =>
      obtain ⟨m, rfl, S⟩ := Sys.of hv
      obtain ⟨m', rfl, S'⟩ := Sys.of hv'
      have h0 : 0 < m := by have := S.pos; omega
      rw [Bool.not_true, bsome, cond_false, R100_eq S S' hl, bsome, rI_gc _ h0, bsome, bit0' (lt2 S'.le bestF_inB 0), Bool.and_self, cond_true, Int.toNat_natCast, Int.toNat_natCast]
      cases hb : (bestF m l m' l' 0).testBit 0 with
      | false => rfl
      | true =>
        have hs0 : subF (addF (fun _ => 0) 0 0) (bestF m l m' l') := subF_of fun a b h => by
          rcases (addF_mem _ _ _ _ _).1 h with h1 | ⟨rfl, rfl⟩
          · unfold mem2 at h1; simp at h1
          · exact hb
        have hl0 : ck (Ar.std.zlt 0 (m : Int)) = some () := ckL' (i := 0) h0
        have hset : Ar.std.lset (rI m fun _ => 0) (Ar.std.nat (Ar.std.zadd 0 0)) (.int .i64 1) = rI m (addF (fun _ => 0) 0 0) := rI_lset (fun _ => 0) 0 1
        rw [Bool.not_true, cond_false, cond_true, ckS, bsome, zle0, bsome, fits6 S.le, bsome, hl0, bsome, rI_rep, show Ar.std.nat (Ar.std.zadd 0 0) = 0 from rfl, rI_lget _ h0, bsome]
        have hset' : Ar.std.lset (rI m fun _ => 0) 0 (.int .i64 1) = rI m (addF (fun _ => 0) 0 0) := hset
        have h88 : R88 Ar.std 0 (m : Int) (rI m (itr (dn3 m l m' l' (bestF m l m' l')) (m * m') (addF (fun _ => 0) 0 0))) = some (ePr (prs m (ownF m l m' l'))) := R88_eq S.le (lt2 S'.le (subF_lt (own_in S S' hb)))
        rw [hset', R51L3_eq S S' hl _ hs0, bsome, h88, bsome]
end Go.Am

set_option maxRecDepth 100000
set_option linter.unusedVariables false
set_option linter.unusedSimpArgs false
set_option linter.unusedSectionVars false
namespace Go.Am
open Go
def Suc (l : List St3) (m' : Nat) (l' : List St3) (r s : Nat → Nat) (a b : Nat) : Prop := ∀ z : St3, z ∈ l → z.1 = (a : Int) → mem2 s z.2.2.toNat (nx m' l' r b z)
theorem Suc.mono {l : List St3} {m' : Nat} {l' : List St3} {r s t : Nat → Nat} {a b : Nat} (h : Suc l m' l' r s a b) (hs : subF s t) : Suc l m' l' r t a b := fun z hz hx => subF_mem hs (h z hz hx)
structure Ex (l : List St3) (m' : Nat) (l' : List St3) (r o s : Nat → Nat) : Prop where
  sub : subF o s
  clo : ∀ a b, mem2 s a b → mem2 o a b ∨ Suc l m' l' r s a b
  min : ∀ h, Clo m' l' r l h → subF o h → subF s h
  lt : ∀ i, s i < 2 ^ m'
structure Dfs (l : List St3) (m' : Nat) (l' : List St3) (r : Nat → Nat) (x y : Nat) (o s : Nat → Nat) : Prop where
  sub : subF o s
  has : mem2 s x y
  clo : ∀ a b, mem2 s a b → mem2 o a b ∨ Suc l m' l' r s a b
  min : ∀ h, Clo m' l' r l h → subF o h → mem2 h x y → subF s h
  lt : ∀ i, s i < 2 ^ m'
theorem Ex.dfs {l : List St3} {m' : Nat} {l' : List St3} {r o s t : Nat → Nat} {x y : Nat} (h : Ex l m' l' r o s) (d : Dfs l m' l' r x y s t) (hxy : ∀ k, Clo m' l' r l k → subF o k → mem2 k x y) : Ex l m' l' r o t := by
  refine ⟨h.sub.trans d.sub, fun a b hab => ?_, fun k hk hok => d.min k hk (h.min k hk hok) (hxy k hk hok), d.lt⟩
  rcases d.clo a b hab with h1 | h1
  · rcases h.clo a b h1 with h2 | h2
    · exact .inl h2
    · exact .inr (h2.mono d.sub)
  · exact .inr h1
section
variable {m m' : Nat} {l l' : List St3}
def nxl (m' : Nat) (l' : List St3) (r : Nat → Nat) (y lab to : Nat) : Nat := Lib.trailingZeros8 (r to &&& comesN m' l' (2 ^ y) (lab : Int))
theorem tz8_eq {a : Nat} (h : a < 64) : tz8 Ar.std (a : Int) = some ((Lib.trailingZeros8 a : Nat) : Int) := by
  have h1 : Ar.std.zle 0 (a : Int) = true := by rw [std_zle]; exact decide_eq_true (by omega)
  have h2 : Ar.std.zle (a : Int) 255 = true := by rw [std_zle]; exact decide_eq_true (by omega)
  unfold tz8
  rw [h1, h2, cond_true, cond_true, Int.toNat_natCast]
theorem R94L0_eq (S : Sys m l) (S' : Sys m' l') {k : Nat} (ih : ∀ (x y : Nat) (out : Nat → Nat), 36 < k + sizeF out → mem2 (bestF m l m' l') x y → (∀ i, out i < 2 ^ m') →
      ∃ s, R94R Ar.std k (x : Int) (y : Int) (FR m l (tF m l)) (FR m' l' (tF m' l')) (rU (bestF m l m' l')) (rU out) = some (rU s) ∧ Dfs l m' l' (bestF m l m' l') x y out s)
    {x y lab : Nat} (hlab : lab < 4) (hxy : mem2 (bestF m l m' l') x y) {o : Nat → Nat} (ho : mem2 o x y) (hk : 36 < k + sizeF o) {s0 : Nat → Nat} (h0 : Ex l m' l' (bestF m l m' l') o s0) :
    ∃ s, iter (R94L0 Ar.std (y : Int) (FR m l (tF m l)) (FR m' l' (tF m' l')) (rU (bestF m l m' l')) (R94R Ar.std k) (lab : Int) (eInt (cNs (bl (stepN l (2 ^ x) (lab : Int)))))) (0, rU s0) = some (rU s) ∧
      Ex l m' l' (bestF m l m' l') o s ∧ subF s0 s ∧ ∀ to ∈ bl (stepN l (2 ^ x) (lab : Int)), mem2 s to (nxl m' l' (bestF m l m' l') y lab to) := by
  have hm := S.le
  have hm' := S'.le
  have hb := bl_len (stepN l (2 ^ x) (lab : Int))
  have hy : y < m' := bl_lt (bestF_inB x) (mem_bl.2 ⟨mem_lt6 (lt2 hm' bestF_inB) hxy, hxy⟩)
  obtain ⟨s, hR, e⟩ := iter_rel (step := R94L0 Ar.std (y : Int) (FR m l (tF m l)) (FR m' l' (tF m' l')) (rU (bestF m l m' l')) (R94R Ar.std k) (lab : Int) (eInt (cNs (bl (stepN l (2 ^ x) (lab : Int)))))) (bl (stepN l (2 ^ x) (lab : Int))).length
    (fun (s : Nat → Nat) i => ((i : Int), rU s)) (fun i s => Ex l m' l' (bestF m l m' l') o s ∧ subF s0 s ∧ ∀ to ∈ (bl (stepN l (2 ^ x) (lab : Int))).take i, mem2 s to (nxl m' l' (bestF m l m' l') y lab to)) rU
    (fun i s hi hR => by
      have ha := List.getElem?_eq_getElem hi
      generalize (bl (stepN l (2 ^ x) (lab : Int)))[i] = to at ha
      obtain ⟨z, hz, z1, z2, z3⟩ := (step_mem S.ok to).1 (List.mem_of_getElem? ha)
      obtain ⟨hne, hmem, hnx⟩ := best_nx S S' hxy hz z2
      have hto : z.2.2.toNat = to := by omega
      have hnl : nx m' l' (bestF m l m' l') y z = nxl m' l' (bestF m l m' l') y lab to := by unfold nx nxl; rw [hto, z1]
      rw [hto, hnl] at hmem
      have ha6 : to < 6 := (mem_bl.1 (List.mem_of_getElem? ha)).1
      have hlt : Ar.std.zlt (i : Int) (Ar.std.len (eInt (cNs (bl (stepN l (2 ^ x) (lab : Int)))))) = true := by rw [eIc_len]; exact ltN hi
      have hgt : gt Ar.std (cI .i64) (eInt (cNs (bl (stepN l (2 ^ x) (lab : Int))))) (i : Int) = some (to : Int) := gt_enc (cNs_get ha)
      have hc : tF m' l' (24 + 6 * lab + y) = comesN m' l' (2 ^ y) (lab : Int) := tF_comes hlab hy (by omega)
      have hc64 : comesN m' l' (2 ^ y) (lab : Int) < 64 := lt64 hm' (comesN_ltB S'.sb (Nat.pow_lt_pow_right (by decide) hy) _)
      have hsz := size_mono hR.1.sub
      obtain ⟨s', e1, d⟩ := ih to (nxl m' l' (bestF m l m' l') y lab to) s (by omega) hmem hR.1.lt
      refine ⟨s', ⟨hR.1.dfs d fun k hk hok => ?_, hR.2.1.trans d.sub, fun t ht => ?_⟩, ?_⟩
      · have := hk x y z hz z2 (subF_mem hok ho)
        rw [hto, hnl] at this; exact this
      · rw [take_succ_get ha] at ht
        rcases List.mem_append.1 ht with h1 | h1
        · exact subF_mem d.sub (hR.2.2 t h1)
        · rw [List.mem_singleton] at h1; subst h1; exact d.has
      · have hlt64 : bestF m l m' l' to &&& comesN m' l' (2 ^ y) (lab : Int) < 64 := lt64 hm' (and_lt (bestF_inB _))
        unfold R94L0
        dsimp only
        rw [hlt, cond_true, hgt, bsome, ckN, bsome, ckL ha6, bsome, ix1, rU_gc _ ha6, bsome, ckN, bsome, ckL hlab, bsome, ckN, bsome, ckL (by omega : y < 6), bsome, ix3 lab y 24, FR_gc _ _ _ (by omega), bsome, hc, andS (lt2 hm' bestF_inB to) hc64, tz8_eq hlt64, bsome]
        have e1' : R94R Ar.std k (to : Int) ((Lib.trailingZeros8 (bestF m l m' l' to &&& comesN m' l' (2 ^ y) (lab : Int)) : Nat) : Int) (FR m l (tF m l)) (FR m' l' (tF m' l')) (rU (bestF m l m' l')) (rU s) = some (rU s') := e1
        rw [e1', bsome, inc (by omega : i < 100) (by decide)]) (fun s _ => by
      unfold R94L0
      dsimp only
      rw [show Ar.std.zlt ((bl (stepN l (2 ^ x) (lab : Int))).length : Int) (Ar.std.len (eInt (cNs (bl (stepN l (2 ^ x) (lab : Int)))))) = false from by rw [eIc_len]; exact geN _, cond_false]) s0 ⟨h0, subF.refl _, fun t ht => by rw [List.take_zero] at ht; cases ht⟩
  rw [List.take_length] at hR
  exact ⟨s, e, hR.1, hR.2.1, hR.2.2⟩
theorem R94R_eq (S : Sys m l) (S' : Sys m' l') : ∀ (k x y : Nat) (out : Nat → Nat), 36 < k + sizeF out → mem2 (bestF m l m' l') x y → (∀ i, out i < 2 ^ m') →
    ∃ s, R94R Ar.std k (x : Int) (y : Int) (FR m l (tF m l)) (FR m' l' (tF m' l')) (rU (bestF m l m' l')) (rU out) = some (rU s) ∧ Dfs l m' l' (bestF m l m' l') x y out s
  | 0, x, y, out, hk, _, _ => by have := sizeF_le out; omega
  | k + 1, x, y, out, hk, hxy, hout => by
    have hm := S.le
    have hm' := S'.le
    have hxm : x < m := by
      rcases Nat.lt_or_ge x m with h1 | h1
      · exact h1
      · have hh := hxy
        unfold mem2 at hh
        rw [bestF_out (l := l) (m' := m') (l' := l') hm h1] at hh; simp at hh
    have hx6 : x < 6 := by omega
    have hy : y < m' := bl_lt (bestF_inB x) (mem_bl.2 ⟨mem_lt6 (lt2 hm' bestF_inB) hxy, hxy⟩)
    have hy6 : y < 6 := by omega
    have h91 := R91_eq (lt2 hm' hout x) hy6
    show ∃ s, R94B Ar.std (R94R Ar.std k) (x : Int) (y : Int) (FR m l (tF m l)) (FR m' l' (tF m' l')) (rU (bestF m l m' l')) (rU out) = some (rU s) ∧ _
    unfold R94B
    rw [ckN, bsome, ckL hx6, bsome, ix1, rU_gc _ hx6, bsome, h91, bsome]
    cases hh : (out x).testBit y with
    | true => exact ⟨out, by rw [cond_true], subF.refl _, hh, fun a b h => .inl h, fun h _ h2 _ => h2, hout⟩
    | false =>
      rw [cond_false, bsome, bsome, bsome, nkN, bsome, bsome, bsome, rU_lget _ hx6, bsome, shlS (by omega), orS (lt2 hm' hout x) (pow6 hy6), rU_lset]
      have hadd : upd out x (out x ||| 2 ^ y) = addF out x y := rfl
      rw [hadd]
      have ho : mem2 (addF out x y) x y := (addF_mem _ _ _ _ _).2 (.inr ⟨rfl, rfl⟩)
      have hsz := size_lt (addF_sub out x y) hx6 hy6 hh ho
      have hE : Ex l m' l' (bestF m l m' l') (addF out x y) (addF out x y) := ⟨subF.refl _, fun a b h => .inl h, fun h _ h2 => h2, addF_lt hout hy⟩
      obtain ⟨s, hR, e⟩ := iter_rel (step := R94L1 Ar.std (x : Int) (y : Int) (FR m l (tF m l)) (FR m' l' (tF m' l')) (rU (bestF m l m' l')) (R94R Ar.std k)) 4
        (fun (s : Nat → Nat) i => ((i : Int), rU s)) (fun i s => Ex l m' l' (bestF m l m' l') (addF out x y) s ∧ ∀ lab, lab < i → ∀ to ∈ bl (stepN l (2 ^ x) (lab : Int)), mem2 s to (nxl m' l' (bestF m l m' l') y lab to)) rU
        (fun lab s hlab hR => by
          obtain ⟨s', e1, e2, e3, e4⟩ := R94L0_eq S S' (R94R_eq S S' k) hlab hxy ho (by omega) hR.1
          refine ⟨s', ⟨e2, fun j hj to hto => ?_⟩, ?_⟩
          · rcases Nat.lt_or_eq_of_le (Nat.le_of_lt_succ hj) with h1 | h1
            · exact subF_mem e3 (hR.2 j h1 to hto)
            · subst h1; exact e4 to hto
          · have hs : tF m l (6 * lab + x) = stepN l (2 ^ x) (lab : Int) := by
              rw [tF_step _ (by omega), show (6 * lab + x) % 6 = x from by omega, show (6 * lab + x) / 6 = lab from by omega]
            have hix2 := ix3 lab x 0
            rw [show 0 + 6 * lab + x = 6 * lab + x from by omega] at hix2
            unfold R94L1
            dsimp only
            rw [lt4 hlab, cond_true, ckN, bsome, ckL hlab, bsome, ckN, bsome, ckL hx6, bsome, hix2, FR_gc _ _ _ (by omega), bsome, hs, R76_eq _ (stepN_lt S.ok _ _), bsome, e1, bsome, inc (by omega : lab < 100) (by decide)]) (fun s _ => by
          unfold R94L1
          dsimp only
          rw [show Ar.std.zlt ((4 : Nat) : Int) 4 = false from rfl, cond_false]) (addF out x y) ⟨hE, fun lab h => by omega⟩
      have e' : iter (R94L1 Ar.std (x : Int) (y : Int) (FR m l (tF m l)) (FR m' l' (tF m' l')) (rU (bestF m l m' l')) (R94R Ar.std k)) (0, rU (addF out x y)) = some (rU s) := e
      have hsuc : Suc l m' l' (bestF m l m' l') s x y := fun z hz z1 => by
        have hok := S.ok.2 z hz
        have hl4 : z.2.1.toNat < 4 := by omega
        have e1 : ((z.2.1.toNat : Nat) : Int) = z.2.1 := by omega
        have := hR.2 z.2.1.toNat hl4 z.2.2.toNat ((step_mem S.ok _).2 ⟨z, hz, by omega, z1, by omega⟩)
        unfold nxl at this
        rw [e1] at this
        exact this
      refine ⟨s, by rw [e', bsome], (addF_sub out x y).trans hR.1.sub, subF_mem hR.1.sub ho, fun a b h => ?_, fun h h1 h2 h3 => hR.1.min h h1 (subF_of fun a b hab => ?_), hR.1.lt⟩
      · rcases hR.1.clo a b h with h1 | h1
        · rcases (addF_mem _ _ _ _ _).1 h1 with h2 | ⟨rfl, rfl⟩
          · exact .inl h2
          · exact .inr hsuc
        · exact .inr h1
      · rcases (addF_mem _ _ _ _ _).1 hab with h4 | ⟨rfl, rfl⟩
        · exact subF_mem h2 h4
        · exact h3
theorem R94_eq (S : Sys m l) (S' : Sys m' l') (h0 : mem2 (bestF m l m' l') 0 0) : R94 Ar.std 0 0 (FR m l (tF m l)) (FR m' l' (tF m' l')) (rU (bestF m l m' l')) (rU fun _ => 0) = some (rU (ownF m l m' l')) := by
  obtain ⟨s, e, d⟩ := R94R_eq S S' fuel 0 0 (fun _ => 0) (by rw [fuel_eq]; omega) h0 (fun i => Nat.two_pow_pos m')
  have z0 : ∀ a b, ¬ mem2 (fun _ => 0) a b := fun a b h => by unfold mem2 at h; simp at h
  have hL : Least m' l' (bestF m l m' l') l s := ⟨fun x y z hz hx h => by
    rcases d.clo x y h with h1 | h1
    · exact absurd h1 (z0 _ _)
    · exact h1 z hz hx, d.has, fun h hc hh => d.min h hc (subF_of fun a b hab => absurd hab (z0 _ _)) hh⟩
  rw [Least.same m' l' _ (own_least S S' h0) hL]
  exact e
theorem ownF_out (S : Sys m l) (S' : Sys m' l') (h0 : mem2 (bestF m l m' l') 0 0) {x : Nat} (hx : m ≤ x) : ownF m l m' l' x = 0 := by
  have h1 := own_in S S' h0 x
  rw [bestF_out S.le hx] at h1
  have := h1.le
  omega
end
theorem R46_eq (n n' : Int) (l l' : List St3) (hl : l.length < Lg) (hl' : l'.length < Lg) : R46 Ar.std n (eSt l) n' (eSt l') = some (ePr (prf n l n' l').1, (prf n l n' l').2) := by
  unfold R46 prf
  rw [R70_eq n n' l l' hl hl', bsome]
  cases hv : vSys n l with
  | false => rfl
  | true =>
    cases hv' : vSys n' l' with
    | false => rfl
    | true =>
      obtain ⟨m, rfl, S⟩ := Sys.of hv
      obtain ⟨m', rfl, S'⟩ := Sys.of hv'
      have e : R90 Ar.std (FR m l (tF m l)) (FR m' l' (tF m' l')) = some (rU (bestF m l m' l')) := R90_eq S S'
      have h9 : R91 Ar.std ((bestF m l m' l' 0 : Nat) : Int) 0 = some ((bestF m l m' l' 0).testBit 0) := R91_eq (i := 0) (lt2 S'.le bestF_inB 0) (by decide)
      simp only [cond_true, Int.toNat_natCast, Bool.and_self, Sum.elim_inl]
      rw [e, bsome, rU_len, bsome, rU_room, bsome, rU_spl, show Ar.std.nat 0 = 0 from rfl, rU_gc _ (by decide), bsome, h9, bsome]
      cases hb : (bestF m l m' l' 0).testBit 0 with
      | false => rfl
      | true =>
        have h86 := R86_eq (f := ownF m l m' l') (lt2 S'.le (subF_lt (own_in S S' hb)))
        have hp := prs_zero (n := m) (f := ownF m l m' l') (fun i hi => ownF_out S S' hb hi) (6 - m)
        have hm := S.le
        rw [show m + (6 - m) = 6 from by omega] at hp
        rw [cond_true, cond_true, rU_rep, R94_eq S S' hb, bsome, rU_ga, bsome, h86, bsome, hp]
theorem small_P {l : List P2} {n : Nat} (h : l.length ≤ n) (hn : n ≤ 1000) : l.length < Lg := by show l.length < 9223372036854775808; omega
theorem bst_len (n n' : Int) (l l' : List St3) : (bst n l n' l').1.length ≤ 36 := by
  unfold bst
  cases hv : vSys n l with
  | false => exact Nat.zero_le _
  | true =>
    cases vSys n' l' with
    | false => exact Nat.zero_le _
    | true =>
      obtain ⟨m, rfl, S⟩ := Sys.of hv
      have := prs_len m (bestF m l n'.toNat l')
      have := S.le
      show (prs (m : Int).toNat (bestF (m : Int).toNat l n'.toNat l')).length ≤ 36
      rw [Int.toNat_natCast]; omega
theorem prf_len (n n' : Int) (l l' : List St3) : (prf n l n' l').1.length ≤ 36 := by
  unfold prf
  cases hv : vSys n l with
  | false => exact Nat.zero_le _
  | true =>
    cases vSys n' l' with
    | false => exact Nat.zero_le _
    | true =>
      obtain ⟨m, rfl, S⟩ := Sys.of hv
      rw [Int.toNat_natCast, Bool.and_self, cond_true]
      cases (bestF m l n'.toNat l' 0).testBit 0 with
      | false => exact Nat.zero_le _
      | true =>
        have := prs_len m (ownF m l n'.toNat l')
        have := S.le
        show (prs m (ownF m l n'.toNat l')).length ≤ 36
        omega
theorem R12_ok (n n' : Int) (l l' : List St3) (hl : l.length < Lg) (hl' : l'.length < Lg) (r : List P2) (hr : r.length < Lg) : R12 Ar.std n (eSt l) n' (eSt l') (ePr r) = some true := by
  have s1 := R41_same _ (small_P (bst_len n n' l l') (by decide))
  have s2 := R41_same _ (small_P (prf_len n n' l l') (by decide))
  unfold R12
  rw [R16_eq, bsome, R16_eq, bsome, len_enc, std_zlt]
  have hmain : (bif decide ((100 : Int) < l.length) then some true else bif decide ((100 : Int) < l'.length) then some true else some (decide ((100 : Int) < r.length))) = some (decide ((100 : Int) < l.length) || (decide ((100 : Int) < l'.length) || decide ((100 : Int) < r.length))) := by
    cases decide ((100 : Int) < l.length) <;> cases decide ((100 : Int) < l'.length) <;> rfl
  rw [hmain, bsome]
  cases (decide ((100 : Int) < l.length) || (decide ((100 : Int) < l'.length) || decide ((100 : Int) < r.length))) with
  | true => rw [cond_true, R17_eq]; rfl
  | false =>
    have h49 := R49_eq n n' l l' hl hl' r hr
    have h48 := R48_eq n n' l l' hl hl' r hr
    have h44 := R44_eq n n' l l' hl hl'
    have h52 := R52_eq n n' l l' hl hl'
    generalize isPr n l n' l' r = q at h49 h48
    generalize rfn n l n' l' = q' at h44 h52
    obtain ⟨a, b⟩ := q
    obtain ⟨a', b'⟩ := q'
    rw [cond_false, R47_eq n n' l l' hl hl', bsome]
    dsimp only
    rw [R50_eq n n' l l' hl hl', bsome]
    dsimp only
    rw [s1, bsome, cond_true, zeqS, Bool.not_true, bsome, cond_false, R46_eq n n' l l' hl hl', bsome]
    dsimp only
    rw [R51_eq n n' l l' hl hl', bsome]
    dsimp only
    rw [s2, bsome, cond_true, zeqS, Bool.not_true, bsome, cond_false, h49, bsome]
    dsimp only
    rw [h48, bsome]
    dsimp only
    rw [h44, bsome]
    dsimp only
    rw [h52, bsome]
    dsimp only
    rw [beqS, cond_true, zeqS, cond_true, beqS, cond_true, zeqS, cond_true, R17_eq]; rfl
end Go.Am
