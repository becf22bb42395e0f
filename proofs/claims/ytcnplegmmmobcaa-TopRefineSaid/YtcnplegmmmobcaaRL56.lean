/- Own text: RL56. -/
import Derived.Test.YtcnplegmmmobcaaRL36
set_option maxRecDepth 100000
set_option linter.unusedVariables false
set_option linter.unusedSimpArgs false
set_option linter.unusedSectionVars false
namespace Go.Am
open Go
theorem prevW {i : Nat} (h : 0 < i) (h2 : i < Lg) : Ar.std.wrp .i64 (Ar.std.zsub (i : Int) 1) = ((i - 1 : Nat) : Int) := by
  have h2' : i < 9223372036854775808 := h2
  rw [std_wrp, std_zsub, wrapS (by omega) (by omega)]; omega
theorem btw_lo {a : Int} {m : Nat} (h : btw 0 a ((m : Int) - 1) = true) : 0 ≤ a ∧ a.toNat < m := by
  simp only [btw, Bool.and_eq_true, decide_eq_true_eq] at h; omega
theorem badR_ok {m n : Nat} {r : List P2} {i : Nat} {p : P2} (h : r[i]? = some p) (hb : badR m n r i = false) : (0 ≤ p.1 ∧ p.1.toNat < m) ∧ (0 ≤ p.2 ∧ p.2.toNat < n) := by
  rw [badR_get h] at hb
  simp only [Bool.or_eq_false_iff, Bool.not_eq_false', Bool.and_eq_true] at hb
  exact ⟨btw_lo hb.1.1, btw_lo hb.1.2⟩
theorem isRel_ok {m n : Nat} {r : List P2} (h : isRel m n r = true) : ∀ p ∈ r, (0 ≤ p.1 ∧ p.1.toNat < m) ∧ (0 ≤ p.2 ∧ p.2.toNat < n) := by
  intro p hp
  obtain ⟨i, hi, rfl⟩ := List.getElem_of_mem hp
  refine badR_ok (List.getElem?_eq_getElem hi) ?_
  unfold isRel at h
  rw [Bool.not_eq_true'] at h
  rw [Bool.eq_false_iff]
  intro hb
  rw [Bool.eq_false_iff] at h
  exact h (List.any_eq_true.2 ⟨i, List.mem_range.2 hi, hb⟩)
theorem R85_eq {m n : Nat} (hm : 1 ≤ m ∧ m ≤ 6) (hn : 1 ≤ n ∧ n ≤ 6) (r : List P2) (hr : r.length < Lg) : ∃ f, R85 Ar.std (ePr r) (m : Int) (n : Int) = some (rU f, isRel m n r) ∧ (isRel m n r = true → f = relF r) := by
  have w1 : Ar.std.wrp .i64 (Ar.std.zsub (m : Int) 1) = (m : Int) - 1 := by rw [std_wrp, std_zsub, wrapS (by omega) (by omega)]
  have w2 : Ar.std.wrp .i64 (Ar.std.zsub (n : Int) 1) = (n : Int) - 1 := by rw [std_wrp, std_zsub, wrapS (by omega) (by omega)]
  have hB : ∀ i, i < r.length → (∀ j, j < i → badR m n r j = false) → ∀ p ∈ r.take i, (0 ≤ p.1 ∧ p.1.toNat < m) ∧ (0 ≤ p.2 ∧ p.2.toNat < n) := fun i hi hj p hp => by
    obtain ⟨j, hjl, rfl⟩ := List.getElem_of_mem hp
    rw [List.length_take] at hjl
    rw [List.getElem_take]
    exact badR_ok (List.getElem?_eq_getElem (by omega)) (hj j (by omega))
  have key := iter_stopP (step := R85L0 Ar.std (ePr r) (m : Int) (n : Int)) r.length (fun i => ((i : Int), rU (relF (r.take i)))) (badR m n r) (rU (relF r)) (fun z => ∃ f, z = (rU f, rU f, rU f)) (fun i hi hj => by
    have hp := List.getElem?_eq_getElem hi
    have hlo := hB i hi hj
    have h64 := relF_lt (r := r.take i) fun p hp => by have := (hlo p hp).2.2; omega
    generalize r[i] = p at hp
    have hget : gt Ar.std cP (ePr r) (i : Int) = some p := gt_enc hp
    have hi' : i < 9223372036854775808 := Nat.lt_trans hi hr
    have hbad : ((R65 Ar.std 0 p.1 ((m : Int) - 1)).bind fun r57 => bif r57 then (R65 Ar.std 0 p.2 ((n : Int) - 1)).bind fun r60 => bif r60 then bif (Ar.std.zlt 0 (i : Int)) then
        (gt Ar.std cP (ePr r) (Ar.std.wrp .i64 (Ar.std.zsub (i : Int) 1))).bind fun x => (R108 Ar.std x.1 x.2 p.1 p.2).bind fun r69 => some (Ar.std.zle 0 r69) else some false else some true else some true) = some (badR m n r i) := by
      rw [badR_get hp, R65_eq, bsome, R65_eq, bsome, std_zlt]
      cases btw 0 p.1 ((m : Int) - 1) with
      | false => rfl
      | true =>
        cases btw 0 p.2 ((n : Int) - 1) with
        | false => rfl
        | true =>
          rw [cond_true, cond_true]
          rcases Nat.eq_zero_or_pos i with h0 | h0
          · subst h0; rfl
          · rw [decide_eq_true (by omega : (0 : Int) < (i : Int)), cond_true, prevW h0 (by omega : i < 9223372036854775808)]
            have hq := List.getElem?_eq_getElem (l := r) (i := i - 1) (by omega)
            generalize r[i - 1] = q at hq
            have hget' : gt Ar.std cP (ePr r) ((i - 1 : Nat) : Int) = some q := gt_enc hq
            obtain ⟨s, e1, e2⟩ := R108_some q p
            rw [hget', bsome, e1, bsome, e2, hq, Option.map_some, Option.getD_some, decide_eq_true h0]; rfl
    have hbad' : ((R65 Ar.std 0 p.1 ((m : Int) - 1)).bind fun r57 => bif r57 then (R65 Ar.std 0 p.2 ((n : Int) - 1)).bind fun r60 => bif r60 then bif (Ar.std.zlt 0 (i : Int)) then
        (gt Ar.std cP (ePr r) (Ar.std.wrp .i64 (Ar.std.zsub (i : Int) 1))).bind fun (a63, a64) => (R108 Ar.std a63 a64 p.1 p.2).bind fun r69 => some (Ar.std.zle 0 r69) else some false else some true else some true) = some (badR m n r i) := hbad
    have hstep : R85L0 Ar.std (ePr r) (m : Int) (n : Int) ((i : Int), rU (relF (r.take i))) = bif badR m n r i then some (.inr (.inr (rU (relF (r.take i)), rU (relF (r.take i)), rU (relF (r.take i))))) else
        (ck (Ar.std.zle 0 p.1)).bind fun _ => (ck (Ar.std.zlt p.1 (Int.ofNat 6))).bind fun _ => (gc Ar.std (cI .u8) (rU (relF (r.take i))) (Ar.std.nat (Ar.std.zadd 0 (Ar.std.zmul p.1 (Int.ofNat 1))))).bind fun a90 =>
        (nk (Ar.std.zlt p.2 0)).bind fun _ => (ck (Ar.std.zle 0 p.1)).bind fun _ => (ck (Ar.std.zlt p.1 (Int.ofNat 6))).bind fun _ => (Ar.std.lget (rU (relF (r.take i))) (Ar.std.nat (Ar.std.zadd 0 (Ar.std.zmul p.1 (Int.ofNat 1))))).bind fun d99 =>
        some (.inl ((Ar.std.wrp .i64 (Ar.std.zadd (i : Int) 1)), (Ar.std.lset (rU (relF (r.take i))) (Ar.std.nat (Ar.std.zadd 0 (Ar.std.zmul p.1 (Int.ofNat 1)))) (.int .u8 (Ar.std.bits .or .u8 a90 (Ar.std.shl .u8 1 p.2)))))) := by
      unfold R85L0
      dsimp only
      rw [ltS hi, cond_true, hget, bsome]
      rw [w1, w2, hbad', bsome, rU_ga, bsome, rU_len, bsome, rU_room, bsome, rU_spl, rU_len, bsome, rU_ones, bsome]
    refine ⟨fun hb => ?_, fun hb => ⟨_, ⟨_, rfl⟩, by rw [hstep, hb, cond_true]⟩⟩
    have hok := badR_ok hp hb
    rw [hb, cond_false] at hstep
    obtain ⟨a, ha⟩ : ∃ a : Nat, p.1 = (a : Int) := ⟨p.1.toNat, by omega⟩
    obtain ⟨b, hb'⟩ : ∃ b : Nat, p.2 = (b : Int) := ⟨p.2.toNat, by omega⟩
    have ha6 : a < 6 := by omega
    have hb6 : b < 6 := by omega
    rw [hstep, ha, hb', ckN, bsome, ckL ha6, bsome, ix1, rU_gc _ ha6, bsome, nkN, bsome, bsome, bsome, rU_lget _ ha6, bsome, shlS (by omega), orS (h64 a) (pow6 hb6), rU_lset, inc hi hr, take_succ_get hp, relF_snoc]
    unfold putP
    rw [ha, hb']; rfl) (fun _ => by
    unfold R85L0
    dsimp only
    rw [geS, cond_false, List.take_length])
  have e0 : (((0 : Nat) : Int)) = 0 := rfl
  rw [e0, List.take_zero] at key
  have e1 : rU (relF []) = rU fun _ => 0 := rfl
  rw [e1] at key
  unfold R85 isRel
  rw [rU_rep]
  rcases key with ⟨h1, _, h3⟩ | ⟨h1, z, ⟨f, rfl⟩, h3⟩
  · refine ⟨relF r, ?_, fun _ => rfl⟩
    rw [h3, bsome, h1, Sum.elim_inl, rU_ga, bsome, rU_len, bsome, ← rU_rep, rU_room, bsome, rU_spl, rU_len, bsome, rU_ones, bsome]; rfl
  · refine ⟨f, ?_, fun h => ?_⟩
    · rw [h3, bsome, h1]; rfl
    · rw [h1] at h; cases h
theorem R87_eq {m n : Nat} (r : List P2) (hr : r.length < Lg) : R87 Ar.std (ePr r) (m : Int) (n : Int) = some (isRel m n r) := by
  have key := iter_stopP (step := R87L0 Ar.std (ePr r) (m : Int) (n : Int)) r.length (fun i => (i : Int)) (badR m n r) () (fun _ => True) (fun i hi hj => by
    have hp := List.getElem?_eq_getElem hi
    generalize r[i] = p at hp
    have hget : gt Ar.std cP (ePr r) (i : Int) = some p := gt_enc hp
    have hi' : i < 9223372036854775808 := Nat.lt_trans hi hr
    have h1 : (bif Ar.std.zlt p.1 0 then some true else bif Ar.std.zle (m : Int) p.1 then some true else bif Ar.std.zlt p.2 0 then some true else some (Ar.std.zle (n : Int) p.2)) = some (!(btw 0 p.1 ((m : Int) - 1) && btw 0 p.2 ((n : Int) - 1))) := by
      rw [std_zlt, std_zle, std_zlt, std_zle]
      unfold btw
      rw [show decide (p.1 < 0) = !decide (0 ≤ p.1) from by rw [← decide_not]; exact decide_eq_decide.2 (by omega), show decide ((m : Int) ≤ p.1) = !decide (p.1 ≤ (m : Int) - 1) from by rw [← decide_not]; exact decide_eq_decide.2 (by omega),
        show decide (p.2 < 0) = !decide (0 ≤ p.2) from by rw [← decide_not]; exact decide_eq_decide.2 (by omega), show decide ((n : Int) ≤ p.2) = !decide (p.2 ≤ (n : Int) - 1) from by rw [← decide_not]; exact decide_eq_decide.2 (by omega)]
      cases decide (0 ≤ p.1) <;> cases decide (p.1 ≤ (m : Int) - 1) <;> cases decide (0 ≤ p.2) <;> cases decide (p.2 ≤ (n : Int) - 1) <;> rfl
    have h2 : (bif Ar.std.zlt 0 (i : Int) then (gt Ar.std cP (ePr r) (Ar.std.wrp .i64 (Ar.std.zsub (i : Int) 1))).bind fun x => bif Ar.std.zlt p.1 x.1 then some true else bif Ar.std.zeq p.1 x.1 then some (Ar.std.zle p.2 x.2) else some false else some false) = some (decide (0 < i) && !((r[i - 1]?.map fun q => lessP q p).getD true)) := by
      rcases Nat.eq_zero_or_pos i with h0 | h0
      · subst h0; rfl
      · rw [std_zlt, decide_eq_true (by omega : (0 : Int) < (i : Int)), cond_true, prevW h0 (by omega : i < 9223372036854775808)]
        have hq := List.getElem?_eq_getElem (l := r) (i := i - 1) (by omega)
        generalize r[i - 1] = q at hq
        have hget' : gt Ar.std cP (ePr r) ((i - 1 : Nat) : Int) = some q := gt_enc hq
        rw [hget', bsome, hq, Option.map_some, Option.getD_some, decide_eq_true h0, std_zlt, std_zeq, std_zle]
        unfold lessP
        by_cases k : p.1 < q.1
        · rw [decide_eq_true k, decide_eq_false (by omega : ¬ q.1 < p.1), decide_eq_false (by omega : ¬ q.1 = p.1)]; rfl
        · by_cases k2 : p.1 = q.1
          · rw [decide_eq_false k, decide_eq_true k2, decide_eq_false (by omega : ¬ q.1 < p.1), decide_eq_true k2.symm]
            by_cases k3 : p.2 ≤ q.2
            · rw [decide_eq_true k3, decide_eq_false (by omega : ¬ q.2 < p.2)]; rfl
            · rw [decide_eq_false k3, decide_eq_true (by omega : q.2 < p.2)]; rfl
          · rw [decide_eq_false k, decide_eq_false k2, decide_eq_true (by omega : q.1 < p.1)]; rfl
    have h2' : (bif Ar.std.zlt 0 (i : Int) then (gt Ar.std cP (ePr r) (Ar.std.wrp .i64 (Ar.std.zsub (i : Int) 1))).bind fun (a31, a32) => bif Ar.std.zlt p.1 a31 then some true else bif Ar.std.zeq p.1 a31 then some (Ar.std.zle p.2 a32) else some false else some false) = some (decide (0 < i) && !((r[i - 1]?.map fun q => lessP q p).getD true)) := h2
    have hstep : R87L0 Ar.std (ePr r) (m : Int) (n : Int) (i : Int) = some (bif badR m n r i then .inr (.inr ()) else .inl ((i + 1 : Nat) : Int)) := by
      unfold R87L0
      rw [ltS hi, cond_true, hget, bsome]
      dsimp only
      rw [h1, bsome, h2', badR_get hp, inc hi hr]
      cases (!(btw 0 p.1 ((m : Int) - 1) && btw 0 p.2 ((n : Int) - 1))) with
      | true => rfl
      | false =>
        rw [cond_false, bsome, Bool.false_or]
        cases (decide (0 < i) && !((r[i - 1]?.map fun q => lessP q p).getD true)) <;> rfl
    exact ⟨fun hb => by rw [hstep, hb, cond_false], fun hb => ⟨(), trivial, by rw [hstep, hb, cond_true]⟩⟩) (fun _ => by
    unfold R87L0
    rw [geS, cond_false])
  have e0 : (((0 : Nat) : Int)) = 0 := rfl
  rw [e0] at key
  unfold R87 isRel
  rcases key with ⟨h1, _, h3⟩ | ⟨h1, z, _, h3⟩
  · rw [h3, bsome, h1]; rfl
  · rw [h3, bsome, h1]; rfl
end Go.Am

set_option maxRecDepth 100000
set_option linter.unusedVariables false
set_option linter.unusedSimpArgs false
set_option linter.unusedSectionVars false
namespace Go.Am
open Go
def prs (n : Nat) (f : Nat → Nat) : List P2 := (List.range n).flatMap fun x => (bl (f x)).map fun y : Nat => ((x : Int), (y : Int))
theorem prs_len (n : Nat) (f : Nat → Nat) : (prs n f).length ≤ n * 6 := by
  have := flat_le (fun x => (bl (f x)).map fun y : Nat => ((x : Int), (y : Int))) 6 (List.range n) (fun x _ => by rw [List.length_map]; exact bl_len _)
  rw [List.length_range] at this
  exact this
theorem prs_succ (n : Nat) (f : Nat → Nat) : prs (n + 1) f = prs n f ++ (bl (f n)).map fun y : Nat => ((n : Int), (y : Int)) := by
  unfold prs; rw [List.range_succ, List.flatMap_append, List.flatMap_singleton]
theorem prs_zero {n : Nat} {f : Nat → Nat} (h : ∀ i, n ≤ i → f i = 0) : ∀ k, prs (n + k) f = prs n f
  | 0 => rfl
  | k + 1 => by
    rw [← Nat.add_assoc, prs_succ, prs_zero h k, h _ (by omega), bl_zero]; simp
theorem ap_pr {ls : List P2} (x : P2) (h : ls.length < 4294967295) : ap Ar.std (ePr ls) [.agg [.int .i64 x.1, .int .i64 x.2]] = some (ePr (ls ++ [x])) := ap_enc1 rfl h
theorem R86L0_eq (x : Nat) (s : Nat) (out : List P2) (ho : out.length ≤ 1000) : iter (R86L0 Ar.std (x : Int) (eInt (cNs (bl s)))) (ePr out, 0) = some (ePr (out ++ (bl s).map fun y : Nat => ((x : Int), (y : Int)))) := by
  have hb := bl_len s
  have key := iter_pre (step := R86L0 Ar.std (x : Int) (eInt (cNs (bl s)))) (bl s) (fun pre => out ++ pre.map fun y : Nat => ((x : Int), (y : Int))) (fun S i => (ePr S, (i : Int))) ePr (fun i a ha hi => by
    have hlt : Ar.std.zlt (i : Int) (Ar.std.len (eInt (cNs (bl s)))) = true := by rw [eIc_len]; exact ltN hi
    have hg : gt Ar.std (cI .i64) (eInt (cNs (bl s))) (i : Int) = some (a : Int) := gt_enc (cNs_get ha)
    have hap := ap_pr (ls := out ++ ((bl s).take i).map fun y : Nat => ((x : Int), (y : Int))) ((x : Int), (a : Int)) (by rw [List.length_append, List.length_map, List.length_take]; omega)
    unfold R86L0
    dsimp only
    rw [hlt, cond_true, hg, bsome, hap, bsome, inc (by omega : i < 100) (by decide), List.map_append, List.append_assoc]; rfl) (by
    unfold R86L0
    dsimp only
    rw [show Ar.std.zlt ((bl s).length : Int) (Ar.std.len (eInt (cNs (bl s)))) = false from by rw [eIc_len]; exact geN _, cond_false])
  rw [List.map_nil, List.append_nil] at key
  exact key
theorem R86_eq {f : Nat → Nat} (h : ∀ i, f i < 64) : R86 Ar.std (rU f) = some (ePr (prs 6 f)) := by
  have key := iter_to (step := R86L1 Ar.std (rU f)) 6 (fun i => (ePr (prs i f), (i : Int))) (ePr (prs 6 f)) (fun i hi => by
    have hp := prs_len i f
    unfold R86L1
    dsimp only
    rw [show Ar.std.zlt (i : Int) 6 = true from by rw [std_zlt]; exact decide_eq_true (by omega), cond_true, ckN, bsome, ckL hi, bsome, show Ar.std.nat (i : Int) = i from by rw [std_nat, Int.toNat_natCast], rU_gc _ hi, bsome, R76_eq _ (h i), bsome, R86L0_eq i (f i) _ (by omega), bsome, inc (by omega : i < 100) (by decide), prs_succ]) (by
    unfold R86L1
    dsimp only
    rw [show Ar.std.zlt ((6 : Nat) : Int) 6 = false from rfl, cond_false])
  unfold R86
  rw [rU_len, bsome, rU_ga, bsome]
  have e : iter (R86L1 Ar.std (rU f)) ([], 0) = some (ePr (prs 6 f)) := key
  rw [e]; rfl
def rI (n : Nat) (f : Nat → Nat) : List D := enc (cI .i64) ((List.range n).map fun i => ((f i : Nat) : Int))
theorem rI_get {n : Nat} (f : Nat → Nat) {i : Nat} (h : i < n) : ((List.range n).map fun i => ((f i : Nat) : Int))[i]? = some ((f i : Nat) : Int) := by
  rw [List.getElem?_map, List.getElem?_range h]; rfl
theorem rI_gc {n : Nat} (f : Nat → Nat) {i : Nat} (h : i < n) : gc Ar.std (cI .i64) (rI n f) i = some ((f i : Nat) : Int) := gc_enc (rI_get f h)
theorem rI_lget {n : Nat} (f : Nat → Nat) {i : Nat} (h : i < n) : Ar.std.lget (rI n f) i = some (.int .i64 ((f i : Nat) : Int)) := by
  show (rI n f)[i]? = _
  unfold rI
  rw [enc_get, rI_get f h]; rfl
theorem rI_lset {n : Nat} (f : Nat → Nat) (k v : Nat) : Ar.std.lset (rI n f) k (.int .i64 (v : Int)) = rI n (upd f k v) := by
  rw [std_lset]
  refine List.ext_getElem? fun j => ?_
  rw [List.getElem?_set]
  have hl : (rI n f).length = n := by simp [rI]
  by_cases hj : j < n
  · have h1 := rI_lget f hj
    have h2 := rI_lget (upd f k v) hj
    rw [std_lget] at h1 h2
    rw [h1, h2, hl]
    by_cases h : k = j
    · subst h
      rw [if_pos rfl, if_pos hj]; simp [upd]
    · rw [if_neg h]
      unfold upd
      rw [if_neg (fun e => h e.symm)]
  · have h2 : (rI n (upd f k v))[j]? = none := by rw [List.getElem?_eq_none_iff]; simp [rI]; omega
    have h1 : (rI n f)[j]? = none := by rw [List.getElem?_eq_none_iff]; omega
    rw [h1, h2, hl]
    by_cases h : k = j
    · rw [if_pos h, if_neg (by omega)]
    · rw [if_neg h]
theorem rI_rep (n : Nat) : Ar.std.rep (n : Int) (.int .i64 0) = rI n (fun _ => 0) := by
  rw [std_rep, Int.toNat_natCast]
  unfold rI enc
  rw [List.map_map]
  refine List.ext_getElem? fun j => ?_
  rw [List.getElem?_replicate, List.getElem?_map]
  by_cases hj : j < n
  · rw [if_pos hj, List.getElem?_range hj]; rfl
  · rw [if_neg hj, List.getElem?_eq_none (by simp; omega)]; rfl
theorem zaddZ (i : Nat) : Ar.std.nat (Ar.std.zadd 0 (i : Int)) = i := nat0 i
theorem fold_testP {α : Type} {st : (Nat → Nat) → α → Nat → Nat} {c : α → Nat → Nat → Bool} (h : ∀ f a x y, (st f a x).testBit y = ((f x).testBit y || c a x y)) : ∀ (l : List α) (f : Nat → Nat) (x y : Nat), (l.foldl st f x).testBit y = ((f x).testBit y || l.any fun a => c a x y)
  | [], f, x, y => by simp
  | a :: l, f, x, y => by
    rw [List.foldl_cons, fold_testP h l, h, List.any_cons, Bool.or_assoc]
theorem putP_test (f : Nat → Nat) (p : P2) (x y : Nat) : (putP f p x).testBit y = ((f x).testBit y || (decide (p.1.toNat = x) && decide (p.2.toNat = y))) := by
  unfold putP upd
  by_cases h : x = p.1.toNat
  · subst h
    rw [if_pos rfl, Nat.testBit_or, Nat.testBit_two_pow, decide_eq_true rfl, Bool.true_and]
  · rw [if_neg h, decide_eq_false (fun e => h e.symm)]; simp
theorem relF_test (r : List P2) (x y : Nat) : (relF r x).testBit y = r.any fun p => decide (p.1.toNat = x) && decide (p.2.toNat = y) := by
  unfold relF
  rw [fold_testP putP_test r]; simp
def compF (f g : Nat → Nat) (x : Nat) : Nat := orAll g (bl (f x))
theorem orAll_test (g : Nat → Nat) (l : List Nat) (z : Nat) : (orAll g l).testBit z = l.any fun y => (g y).testBit z := by
  induction l with
  | nil => simp [orAll]
  | cons a l ih => rw [orAll_cons, Nat.testBit_or, ih, List.any_cons]
theorem compF_test (f g : Nat → Nat) (x z : Nat) : (compF f g x).testBit z = (List.range 6).any fun y => (f x).testBit y && (g y).testBit z := by
  unfold compF
  rw [orAll_test, bl, List.any_filter]
theorem compF_lt {f g : Nat → Nat} (hg : ∀ i, g i < 64) (x : Nat) : compF f g x < 64 := orAll_lt (n := 6) fun i _ => hg i
end Go.Am

set_option maxRecDepth 100000
set_option linter.unusedVariables false
set_option linter.unusedSimpArgs false
set_option linter.unusedSectionVars false
namespace Go.Am
open Go
theorem ckL' {i n : Nat} (h : i < n) : ck (Ar.std.zlt (i : Int) (n : Int)) = some () := ckL h
theorem orI {a b : Nat} (ha : a < 64) (hb : b < 64) : Ar.std.bits .or .i64 (a : Int) (b : Int) = ((a ||| b : Nat) : Int) := by rw [std_bits]; exact or_i64 a b (by omega) (by omega)
theorem shlI {q : Nat} (h : q < 62) : Ar.std.shl .i64 1 (q : Int) = ((2 ^ q : Nat) : Int) := by rw [std_shl]; exact shl_i64 q h
theorem updf2 (f : Nat → Nat) (k a b : Nat) : upd (upd f k a) k b = upd f k b := by
  funext j; unfold upd; split <;> rfl
theorem R39L0_eq {f g : Nat → Nat} (hf : ∀ i, f i < 64) (hg : ∀ i, g i < 64) {x : Nat} (hx : x < 6) (s : Nat) : iter (R39L0 Ar.std (rU g) (x : Int) (eInt (cNs (bl s)))) (0, rU f) = some (rU (upd f x (f x ||| orAll g (bl s)))) := by
  have hb := bl_len s
  have key := iter_pre (step := R39L0 Ar.std (rU g) (x : Int) (eInt (cNs (bl s)))) (bl s) (fun pre => upd f x (f x ||| orAll g pre)) (fun S i => ((i : Int), rU S)) rU (fun i a ha hi => by
    have hlt : Ar.std.zlt (i : Int) (Ar.std.len (eInt (cNs (bl s)))) = true := by rw [eIc_len]; exact ltN hi
    have hgt : gt Ar.std (cI .i64) (eInt (cNs (bl s))) (i : Int) = some (a : Int) := gt_enc (cNs_get ha)
    have ha6 : a < 6 := (mem_bl.1 (List.mem_of_getElem? ha)).1
    have hu : upd f x (f x ||| orAll g ((bl s).take i)) x < 64 := by
      unfold upd; rw [if_pos rfl]; exact or_lt (n := 6) (hf x) (orAll_lt (n := 6) fun i _ => hg i)
    unfold R39L0
    dsimp only
    rw [hlt, cond_true, hgt, bsome, ckN, bsome, ckL hx, bsome, ix1, rU_gc _ hx, bsome, ckN, bsome, ckL ha6, bsome, ix1, rU_spl, rU_gc _ ha6, bsome, bsome, bsome, rU_lget _ hx, bsome, orS hu (hg a), rU_lset, inc (by omega : i < 100) (by decide), updf2]
    have e : upd f x (f x ||| orAll g ((bl s).take i)) x ||| g a = f x ||| orAll g ((bl s).take i ++ [a]) := by
      unfold upd; rw [if_pos rfl]
      unfold orAll
      rw [List.foldl_append, List.foldl_cons, List.foldl_nil, Nat.or_assoc]
    rw [e]) (by
    unfold R39L0
    dsimp only
    rw [show Ar.std.zlt ((bl s).length : Int) (Ar.std.len (eInt (cNs (bl s)))) = false from by rw [eIc_len]; exact geN _, cond_false])
  have e0 : upd f x (f x ||| orAll g []) = f := by
    funext j; unfold upd
    by_cases h : j = x
    · rw [if_pos h, h]; simp [orAll]
    · rw [if_neg h]
  rw [e0] at key
  exact key
def part (k : Nat) (f : Nat → Nat) (x : Nat) : Nat := if x < k then f x else 0
theorem part_succ (k : Nat) (f : Nat → Nat) : upd (part k f) k (part k f k ||| f k) = part (k + 1) f := by
  funext j
  unfold upd part
  by_cases h : j = k
  · subst h
    rw [if_pos rfl, if_neg (by omega), if_pos (by omega), Nat.zero_or]
  · rw [if_neg h]
    by_cases h2 : j < k
    · rw [if_pos h2, if_pos (by omega)]
    · rw [if_neg h2, if_neg (by omega)]
theorem part_lt {k : Nat} {f : Nat → Nat} (h : ∀ i, f i < 64) (i : Nat) : part k f i < 64 := by
  unfold part; split
  · exact h i
  · decide
theorem R39L1_eq {f g : Nat → Nat} (hf : ∀ i, f i < 64) (hg : ∀ i, g i < 64) : iter (R39L1 Ar.std (rU f) (rU g)) (0, rU fun _ => 0) = some (rU (compF f g)) := by
  have key := iter_to (step := R39L1 Ar.std (rU f) (rU g)) 6 (fun i => ((i : Int), rU (part i (compF f g)))) (rU (compF f g)) (fun i hi => by
    unfold R39L1
    dsimp only
    rw [show Ar.std.zlt (i : Int) 6 = true from by rw [std_zlt]; exact decide_eq_true (by omega), cond_true, ckN, bsome, ckL hi, bsome, ix1, rU_spl, rU_gc _ hi, bsome, R76_eq _ (hf i), bsome, R39L0_eq (part_lt (compF_lt hg)) hg hi, bsome, inc (by omega : i < 100) (by decide)]
    have e : part i (compF f g) i ||| orAll g (bl (f i)) = part i (compF f g) i ||| compF f g i := rfl
    rw [e, part_succ]) (by
    unfold R39L1
    dsimp only
    rw [show Ar.std.zlt ((6 : Nat) : Int) 6 = false from rfl, cond_false]
    rw [rU_congr (f := part 6 (compF f g)) (g := compF f g) fun i hi => by unfold part; rw [if_pos hi]])
  exact key
def cmpd (r s : List P2) : List P2 × Int := bif isRel 6 6 r && isRel 6 6 s then (prs 6 (compF (relF r) (relF s)), 0) else ([], 2)
theorem relF_lt6 {n : Nat} (hn : n ≤ 6) {m : Nat} {r : List P2} (h : isRel m n r = true) : ∀ i, relF r i < 64 := relF_lt fun p hp => by have := isRel_ok h p hp; omega
theorem R39_eq (r s : List P2) (hr : r.length < Lg) (hs : s.length < Lg) : R39 Ar.std (ePr r) (ePr s) = some (ePr (cmpd r s).1, (cmpd r s).2) := by
  obtain ⟨f, h1, h2⟩ := R85_eq (m := 6) (n := 6) (by decide) (by decide) r hr
  obtain ⟨g, h3, h4⟩ := R85_eq (m := 6) (n := 6) (by decide) (by decide) s hs
  have h1' : R85 Ar.std (ePr r) 6 6 = some (rU f, isRel 6 6 r) := h1
  have h3' : R85 Ar.std (ePr s) 6 6 = some (rU g, isRel 6 6 s) := h3
  unfold R39 cmpd
  rw [h1', bsome]
  dsimp only
  rw [rU_len, bsome, rU_room, bsome, h3', bsome]
  dsimp only
  rw [rU_len, bsome, bsome]
  cases hv : isRel 6 6 r with
  | false => rfl
  | true =>
    cases hv' : isRel 6 6 s with
    | false => rfl
    | true =>
      rw [h2 hv, h4 hv', rU_rep, cond_true, Bool.not_true, bsome, cond_false, R39L1_eq (relF_lt6 (by decide) hv) (relF_lt6 (by decide) hv'), bsome, rU_ga, bsome, R86_eq (compF_lt (relF_lt6 (by decide) hv')), bsome]; rfl
end Go.Am

set_option maxRecDepth 100000
set_option linter.unusedVariables false
set_option linter.unusedSimpArgs false
set_option linter.unusedSectionVars false
namespace Go.Am
open Go
def itr {α : Type} (f : α → α) : Nat → α → α
  | 0, s => s
  | k + 1, s => itr f k (f s)
theorem itr_fix {α : Type} {f : α → α} {s : α} (h : f s = s) : ∀ k, itr f k s = s
  | 0 => rfl
  | k + 1 => by rw [itr, h]; exact itr_fix h k
def clr (a y : Nat) : Nat := a &&& (63 - 2 ^ y)
theorem clr_all : ∀ (a : Fin 64) (y z : Fin 6), (clr a.val y.val).testBit z.val = (a.val.testBit z.val && !decide (z.val = y.val)) := by decide +kernel
theorem clr_lt (a y : Nat) : clr a y < 64 := Nat.lt_of_le_of_lt Nat.and_le_right (by have := Nat.sub_le 63 (2 ^ y); omega)
theorem high_false {a z : Nat} (h : a < 64) (hz : 6 ≤ z) : a.testBit z = false := Nat.testBit_lt_two_pow (Nat.lt_of_lt_of_le h (Nat.pow_le_pow_right (n := 2) (by decide) hz))
theorem clr_test {a y : Nat} (ha : a < 64) (hy : y < 6) (z : Nat) : (clr a y).testBit z = (a.testBit z && !decide (z = y)) := by
  rcases Nat.lt_or_ge z 6 with hz | hz
  · exact clr_all ⟨a, ha⟩ ⟨y, hy⟩ ⟨z, hz⟩
  · rw [high_false (clr_lt a y) hz, high_false ha hz]; rfl
theorem andNot_u8 : ∀ (a : Fin 64) (y : Fin 6), bitsStd .andNot .u8 ((a.val : Nat) : Int) ((2 ^ y.val : Nat) : Int) = ((clr a.val y.val : Nat) : Int) := by decide +kernel
theorem card_clr {a y : Nat} (ha : a < 64) (hy : y < 6) (h : a.testBit y = true) : card 6 (clr a y) < card 6 a := by
  unfold card
  refine countP_lt (fun z hz => ?_) (List.mem_range.2 hy) ?_ h
  · rw [clr_test ha hy] at hz
    simp only [Bool.and_eq_true] at hz
    exact hz.1
  · rw [clr_test ha hy]; simp
def sizeF (f : Nat → Nat) : Nat := card 6 (f 0) + card 6 (f 1) + card 6 (f 2) + card 6 (f 3) + card 6 (f 4) + card 6 (f 5)
theorem size_upd {f : Nat → Nat} {x v : Nat} (hx : x < 6) (h : card 6 v < card 6 (f x)) : sizeF (upd f x v) < sizeF f := by
  unfold sizeF upd
  match x, hx with
  | 0, _ => simp; omega
  | 1, _ => simp; omega
  | 2, _ => simp; omega
  | 3, _ => simp; omega
  | 4, _ => simp; omega
  | 5, _ => simp; omega
theorem sizeF_le (f : Nat → Nat) : sizeF f ≤ 36 := by
  unfold sizeF
  have h := fun i => card_le 6 (f i)
  have := h 0; have := h 1; have := h 2; have := h 3; have := h 4; have := h 5
  omega
section
variable (K : (Nat → Nat) → Nat → Nat → Bool)
def dwc (x : Nat) (f : Nat → Nat) (y : Nat) : Nat → Nat := bif K f x y then f else upd f x (clr (f x) y)
def dwx (f : Nat → Nat) (x : Nat) : Nat → Nat := (bl (f x)).foldl (dwc K x) f
def dws (m : Nat) (f : Nat → Nat) : Nat → Nat := (List.range m).foldl (dwx K) f
def swc (x : Nat) (s : Bool × (Nat → Nat)) (y : Nat) : Bool × (Nat → Nat) := bif K s.2 x y then s else (true, upd s.2 x (clr (s.2 x) y))
def swx (s : Bool × (Nat → Nat)) (x : Nat) : Bool × (Nat → Nat) := (bl (s.2 x)).foldl (swc K x) s
def sws (m : Nat) (f : Nat → Nat) : Bool × (Nat → Nat) := (List.range m).foldl (swx K) (false, f)
variable {K}
theorem swc_snd (x : Nat) (s : Bool × (Nat → Nat)) (y : Nat) : (swc K x s y).2 = dwc K x s.2 y := by
  unfold swc dwc; cases K s.2 x y <;> rfl
theorem foldl_snd {α β γ : Type} {f : α × β → γ → α × β} {g : β → γ → β} (h : ∀ s c, (f s c).2 = g s.2 c) : ∀ (l : List γ) (s : α × β), (l.foldl f s).2 = l.foldl g s.2
  | [], _ => rfl
  | c :: l, s => by rw [List.foldl_cons, List.foldl_cons, foldl_snd h l, h]
theorem swx_snd (s : Bool × (Nat → Nat)) (x : Nat) : (swx K s x).2 = dwx K s.2 x := foldl_snd (fun s y => swc_snd x s y) _ s
theorem sws_snd (m : Nat) (f : Nat → Nat) : (sws K m f).2 = dws K m f := foldl_snd (fun s x => swx_snd s x) _ (false, f)
theorem dwc_lt {x : Nat} {f : Nat → Nat} {y : Nat} (h : ∀ i, f i < 64) (i : Nat) : dwc K x f y i < 64 := by
  unfold dwc
  cases K f x y with
  | true => exact h i
  | false =>
    show upd f x (clr (f x) y) i < 64
    unfold upd; split
    · exact clr_lt _ _
    · exact h i
theorem fold_ltK {γ : Type} {g : (Nat → Nat) → γ → (Nat → Nat)} (hg : ∀ f c, (∀ i, f i < 64) → ∀ i, g f c i < 64) : ∀ (l : List γ) (f : Nat → Nat), (∀ i, f i < 64) → ∀ i, l.foldl g f i < 64
  | [], f, h => h
  | c :: l, f, h => fold_ltK hg l (g f c) (hg f c h)
theorem dwx_lt {f : Nat → Nat} {x : Nat} (h : ∀ i, f i < 64) : ∀ i, dwx K f x i < 64 := fold_ltK (fun f y h => dwc_lt h) _ f h
theorem dws_lt {m : Nat} {f : Nat → Nat} (h : ∀ i, f i < 64) : ∀ i, dws K m f i < 64 := fold_ltK (fun f x h => dwx_lt h) _ f h
structure Ch (s t : Bool × (Nat → Nat)) : Prop where
  no : t.1 = false → s.1 = false ∧ t.2 = s.2
  yes : t.1 = true → s.1 = true ∨ sizeF t.2 < sizeF s.2
  le : sizeF t.2 ≤ sizeF s.2
theorem Ch.refl (s : Bool × (Nat → Nat)) : Ch s s := ⟨fun h => ⟨h, rfl⟩, fun h => .inl h, Nat.le_refl _⟩
theorem Ch.trans {s t u : Bool × (Nat → Nat)} (h : Ch s t) (h' : Ch t u) : Ch s u := by
  refine ⟨fun hu => ?_, fun hu => ?_, Nat.le_trans h'.le h.le⟩
  · obtain ⟨a, b⟩ := h'.no hu
    obtain ⟨c, d⟩ := h.no a
    exact ⟨c, b.trans d⟩
  · rcases h'.yes hu with a | a
    · rcases h.yes a with b | b
      · exact .inl b
      · exact .inr (Nat.lt_of_le_of_lt h'.le b)
    · exact .inr (Nat.lt_of_lt_of_le a h.le)
theorem swc_fold {x : Nat} (hx : x < 6) : ∀ (ys : List Nat) (s : Bool × (Nat → Nat)), ys.Nodup → (∀ i, s.2 i < 64) → (∀ y ∈ ys, y < 6 ∧ (s.2 x).testBit y = true) →
    Ch s (ys.foldl (swc K x) s) ∧ ((ys.foldl (swc K x) s).1 = false → ∀ y ∈ ys, K s.2 x y = true)
  | [], s, _, _, _ => ⟨Ch.refl s, fun _ y hy => by cases hy⟩
  | y :: ys, s, hn, h64, hy => by
    have hn' := List.nodup_cons.1 hn
    have hy0 := hy y (by simp)
    rw [List.foldl_cons]
    unfold swc
    cases hK : K s.2 x y with
    | true =>
      rw [cond_true]
      have ih := swc_fold hx ys s hn'.2 h64 fun z hz => hy z (by simp [hz])
      refine ⟨ih.1, fun h z hz => ?_⟩
      rcases List.mem_cons.1 hz with rfl | hz
      · exact hK
      · exact ih.2 h z hz
    | false =>
      rw [cond_false]
      have ih := swc_fold hx ys (true, upd s.2 x (clr (s.2 x) y)) hn'.2 (fun i => by
        show upd s.2 x (clr (s.2 x) y) i < 64
        unfold upd; split
        · exact clr_lt _ _
        · exact h64 i) (fun z hz => by
        refine ⟨(hy z (by simp [hz])).1, ?_⟩
        show (upd s.2 x (clr (s.2 x) y) x).testBit z = true
        unfold upd
        have hne : ¬ z = y := fun e => hn'.1 (by rw [← e]; exact hz)
        rw [if_pos rfl, clr_test (h64 x) hy0.1, (hy z (by simp [hz])).2, decide_eq_false hne]; rfl)
      have hc : Ch s (true, upd s.2 x (clr (s.2 x) y)) := by
        have := size_upd hx (card_clr (h64 x) hy0.1 hy0.2)
        exact ⟨fun h => (by cases h), fun _ => .inr this, Nat.le_of_lt this⟩
      refine ⟨hc.trans ih.1, fun h => ?_⟩
      have := (ih.1.no h).1
      cases this
theorem swx_ch {s : Bool × (Nat → Nat)} {x : Nat} (hx : x < 6) (h64 : ∀ i, s.2 i < 64) : Ch s (swx K s x) ∧ ((swx K s x).1 = false → ∀ y ∈ bl (s.2 x), K s.2 x y = true) :=
  swc_fold hx _ s (bl_nodup _) h64 fun y hy => mem_bl.1 hy
theorem swx_fold : ∀ (xs : List Nat) (s : Bool × (Nat → Nat)), (∀ x ∈ xs, x < 6) → (∀ i, s.2 i < 64) →
    Ch s (xs.foldl (swx K) s) ∧ ((xs.foldl (swx K) s).1 = false → ∀ x ∈ xs, ∀ y ∈ bl (s.2 x), K s.2 x y = true)
  | [], s, _, _ => ⟨Ch.refl s, fun _ y hy => by cases hy⟩
  | x :: xs, s, hx, h64 => by
    have h1 := swx_ch (K := K) (s := s) (hx x (by simp)) h64
    have ih := swx_fold xs (swx K s x) (fun z hz => hx z (by simp [hz])) (by rw [swx_snd]; exact dwx_lt h64)
    rw [List.foldl_cons]
    refine ⟨h1.1.trans ih.1, fun h => ?_⟩
    obtain ⟨a, b⟩ := ih.1.no h
    obtain ⟨c, d⟩ := h1.1.no a
    intro z hz
    rcases List.mem_cons.1 hz with rfl | hz
    · exact h1.2 a
    · have := ih.2 h z hz
      rw [d] at this
      exact this
theorem sws_ch {m : Nat} (hm : m ≤ 6) {f : Nat → Nat} (h64 : ∀ i, f i < 64) : Ch (false, f) (sws K m f) ∧ ((sws K m f).1 = false → ∀ x, x < m → ∀ y ∈ bl (f x), K f x y = true) := by
  have h := swx_fold (K := K) (List.range m) (false, f) (fun x hx => by have := List.mem_range.1 hx; omega) h64
  exact ⟨h.1, fun hh x hx => h.2 hh x (List.mem_range.2 hx)⟩
theorem dws_fix {m : Nat} (hm : m ≤ 6) : ∀ (n : Nat) {f : Nat → Nat}, (∀ i, f i < 64) → sizeF f ≤ n → (sws K m (itr (dws K m) n f)).1 = false
  | 0, f, h64, hs => by
    have h := sws_ch (K := K) hm h64
    cases hc : (sws K m f).1 with
    | false => exact hc
    | true =>
      rcases h.1.yes hc with a | a
      · cases a
      · have : sizeF (sws K m f).2 < sizeF f := a
        omega
  | n + 1, f, h64, hs => by
    have h := sws_ch (K := K) hm h64
    cases hc : (sws K m f).1 with
    | false =>
      have hf : dws K m f = f := by rw [← sws_snd]; exact (h.1.no hc).2
      rw [itr_fix hf]; exact hc
    | true =>
      rcases h.1.yes hc with a | a
      · cases a
      · have a' : sizeF (dws K m f) < sizeF f := by rw [← sws_snd]; exact a
        rw [itr]
        exact dws_fix hm n (dws_lt h64) (by omega)
theorem fix_of {m : Nat} (hm : m ≤ 6) {f : Nat → Nat} (h64 : ∀ i, f i < 64) (h : (sws K m f).1 = false) : dws K m f = f := by
  rw [← sws_snd]; exact ((sws_ch hm h64).1.no h).2
def subF (p f : Nat → Nat) : Prop := ∀ x, Wi (p x) (f x)
def isPf (K : (Nat → Nat) → Nat → Nat → Bool) (m : Nat) (f : Nat → Nat) : Prop := ∀ x, x < m → ∀ y ∈ bl (f x), K f x y = true
theorem dwc_sub (hK : ∀ f g x y, subF f g → K f x y = true → K g x y = true) {p f : Nat → Nat} {x y : Nat} (hy : y < 6) (h64 : f x < 64) (hp : ∀ z ∈ bl (p x), K p x z = true) (h : subF p f) : subF p (dwc K x f y) := by
  unfold dwc
  cases hk : K f x y with
  | true => exact h
  | false =>
    intro i
    show Wi (p i) (upd f x (clr (f x) y) i)
    unfold upd
    split
    · rename_i hi
      subst hi
      refine Nat.eq_of_testBit_eq fun z => ?_
      rw [Nat.testBit_or, clr_test h64 hy]
      cases hz : (p i).testBit z with
      | false => rfl
      | true =>
        have h1 := (h i).test hz
        have : z ≠ y := by
          rintro rfl
          have := hK p f i z h (hp z (mem_bl.2 ⟨hy, hz⟩))
          rw [hk] at this; cases this
        rw [h1, decide_eq_false this]; rfl
    · exact h i
theorem dwx_sub (hK : ∀ f g x y, subF f g → K f x y = true → K g x y = true) {p : Nat → Nat} {x : Nat} (hp : ∀ z ∈ bl (p x), K p x z = true) : ∀ (ys : List Nat) {f : Nat → Nat}, (∀ y ∈ ys, y < 6) → (∀ i, f i < 64) → subF p f → subF p (ys.foldl (dwc K x) f)
  | [], f, _, _, h => h
  | y :: ys, f, hy, h64, h => dwx_sub hK hp ys (fun z hz => hy z (by simp [hz])) (dwc_lt h64) (dwc_sub hK (hy y (by simp)) (h64 x) hp h)
theorem dws_sub (hK : ∀ f g x y, subF f g → K f x y = true → K g x y = true) {p : Nat → Nat} : ∀ (xs : List Nat) {f : Nat → Nat}, (∀ x ∈ xs, ∀ z ∈ bl (p x), K p x z = true) → (∀ i, f i < 64) → subF p f → subF p (xs.foldl (dwx K) f)
  | [], f, _, _, h => h
  | x :: xs, f, hp, h64, h => dws_sub hK xs (fun z hz => hp z (by simp [hz])) (dwx_lt h64) (dwx_sub hK (hp x (by simp)) _ (fun y hy => (mem_bl.1 hy).1) h64 h)
theorem itr_sub (hK : ∀ f g x y, subF f g → K f x y = true → K g x y = true) {m : Nat} {p : Nat → Nat} (hp : isPf K m p) : ∀ (k : Nat) {f : Nat → Nat}, (∀ i, f i < 64) → subF p f → subF p (itr (dws K m) k f)
  | 0, f, _, h => h
  | k + 1, f, h64, h => itr_sub hK hp k (dws_lt h64) (dws_sub hK _ (fun x hx => hp x (List.mem_range.1 hx)) h64 h)
end
end Go.Am

set_option maxRecDepth 100000
set_option linter.unusedVariables false
set_option linter.unusedSimpArgs false
set_option linter.unusedSectionVars false
namespace Go.Am
open Go
def badK (m' : Nat) (l' : List St3) (f : Nat → Nat) (x y : Nat) (z : St3) : Bool := decide (z.1 = (x : Int)) && decide (comesN m' l' (2 ^ y) z.2.1 &&& f z.2.2.toNat = 0)
def keepN (l : List St3) (m' : Nat) (l' : List St3) (f : Nat → Nat) (x y : Nat) : Bool := !l.any (badK m' l' f x y)
theorem andS {a b : Nat} (ha : a < 64) (hb : b < 64) : Ar.std.bits .and .u8 (a : Int) (b : Int) = ((a &&& b : Nat) : Int) := by rw [std_bits]; exact and_u8 a b (by omega) (by omega)
theorem andI {a b : Nat} (ha : a < 64) (hb : b < 64) : Ar.std.bits .and .i64 (a : Int) (b : Int) = ((a &&& b : Nat) : Int) := by rw [std_bits]; exact and_i64 a b (by omega) (by omega)
def badL (l : List St3) (m' : Nat) (l' : List St3) (f : Nat → Nat) (x y lab : Nat) : Bool := (bl (stepN l (2 ^ x) (lab : Int))).any fun to => decide (f to &&& comesN m' l' (2 ^ y) (lab : Int) = 0)
theorem step_mem {l : List St3} (hl : SOk l) {x lab : Nat} (to : Nat) : to ∈ bl (stepN l (2 ^ x) (lab : Int)) ↔ ∃ z ∈ l, z.2.1 = (lab : Int) ∧ z.1 = (x : Int) ∧ z.2.2 = (to : Int) := by
  rw [mem_bl, stepN_test]
  simp only [List.any_eq_true, goes, Bool.and_eq_true, decide_eq_true_eq, Nat.testBit_two_pow]
  constructor
  · rintro ⟨h6, z, hz, ⟨h1, h2⟩, h3⟩
    have := hl.2 z hz
    exact ⟨z, hz, h1, by omega, by omega⟩
  · rintro ⟨z, hz, h1, h2, h3⟩
    have := hl.2 z hz
    refine ⟨by omega, z, hz, ⟨h1, by omega⟩, by omega⟩
theorem keep_labels {l : List St3} (hl : SOk l) (m' : Nat) (l' : List St3) (f : Nat → Nat) (x y : Nat) : (List.range 4).any (badL l m' l' f x y) = l.any (badK m' l' f x y) := by
  rw [Bool.eq_iff_iff]
  simp only [List.any_eq_true, List.mem_range, badL, badK, Bool.and_eq_true, decide_eq_true_eq]
  constructor
  · rintro ⟨lab, hlab, to, hto, h0⟩
    obtain ⟨z, hz, h1, h2, h3⟩ := (step_mem hl to).1 hto
    refine ⟨z, hz, h2, ?_⟩
    rw [h1, h3, Int.toNat_natCast, Nat.and_comm]; exact h0
  · rintro ⟨z, hz, h1, h2⟩
    have := hl.2 z hz
    have e : ((z.2.1.toNat : Nat) : Int) = z.2.1 := by omega
    refine ⟨z.2.1.toNat, by omega, z.2.2.toNat, (step_mem hl _).2 ⟨z, hz, by omega, h1, by omega⟩, ?_⟩
    rw [e, Nat.and_comm]; exact h2
theorem R99_eq {m m' : Nat} {l l' : List St3} (S : Sys m l) (S' : Sys m' l') {f : Nat → Nat} (hf : ∀ i, f i < 64) {x y : Nat} (hx : x < 6) (hy : y < m') : R99 Ar.std (rU f) (x : Int) (y : Int) (FR m l (tF m l)) (FR m' l' (tF m' l')) = some (keepN l m' l' f x y) := by
  have hm' := S'.le
  have hy6 : y < 6 := by omega
  have key := iter_stop (step := R99L1 Ar.std (rU f) (x : Int) (y : Int) (FR m l (tF m l)) (FR m' l' (tF m' l'))) 4 (fun i => (i : Int)) (badL l m' l' f x y) () (fun lab hlab _ => by
    have hs : tF m l (6 * lab + x) = stepN l (2 ^ x) (lab : Int) := by
      rw [tF_step _ (by omega), show (6 * lab + x) % 6 = x from by omega, show (6 * lab + x) / 6 = lab from by omega]
    have hst : stepN l (2 ^ x) (lab : Int) < 64 := stepN_lt S.ok _ _
    have hc : tF m' l' (24 + 6 * lab + y) = comesN m' l' (2 ^ y) (lab : Int) := tF_comes hlab hy hy6
    have hc64 : comesN m' l' (2 ^ y) (lab : Int) < 64 := lt64 hm' (comesN_ltB S'.sb (Nat.pow_lt_pow_right (by decide) hy) _)
    have inner := iter_stop (step := R99L0 Ar.std (rU f) (y : Int) (FR m' l' (tF m' l')) (lab : Int) (eInt (cNs (bl (stepN l (2 ^ x) (lab : Int)))))) (bl (stepN l (2 ^ x) (lab : Int))).length (fun i => (i : Int)) (fun i => ((bl (stepN l (2 ^ x) (lab : Int)))[i]?.map fun to => decide (f to &&& comesN m' l' (2 ^ y) (lab : Int) = 0)).getD false) () (fun i hi _ => by
      have ha := List.getElem?_eq_getElem hi
      generalize (bl (stepN l (2 ^ x) (lab : Int)))[i] = a at ha
      have ha6 : a < 6 := (mem_bl.1 (List.mem_of_getElem? ha)).1
      have hlt : Ar.std.zlt (i : Int) (Ar.std.len (eInt (cNs (bl (stepN l (2 ^ x) (lab : Int)))))) = true := by rw [eIc_len]; exact ltN hi
      have hgt : gt Ar.std (cI .i64) (eInt (cNs (bl (stepN l (2 ^ x) (lab : Int))))) (i : Int) = some (a : Int) := gt_enc (cNs_get ha)
      have hb := bl_len (stepN l (2 ^ x) (lab : Int))
      have hix := ix3 lab y 24
      have hstep : R99L0 Ar.std (rU f) (y : Int) (FR m' l' (tF m' l')) (lab : Int) (eInt (cNs (bl (stepN l (2 ^ x) (lab : Int))))) (i : Int) = some (bif decide (f a &&& comesN m' l' (2 ^ y) (lab : Int) = 0) then .inr (.inr ()) else .inl ((i + 1 : Nat) : Int)) := by
        unfold R99L0
        rw [hlt, cond_true, hgt, bsome, ckN, bsome, ckL ha6, bsome, ix1, rU_gc _ ha6, bsome, ckN, bsome, ckL hlab, bsome, ckN, bsome, ckL hy6, bsome, hix, FR_gc _ _ _ (by omega), bsome, hc, andS (hf a) hc64, zeqN, inc (by omega : i < 100) (by decide)]
        cases decide (f a &&& comesN m' l' (2 ^ y) (lab : Int) = 0) <;> rfl
      rw [ha, Option.map_some, Option.getD_some]
      exact ⟨fun hb => by rw [hstep, hb, cond_false], fun hb => ⟨(), by rw [hstep, hb, cond_true]⟩⟩) (fun _ => by
      unfold R99L0
      rw [show Ar.std.zlt ((bl (stepN l (2 ^ x) (lab : Int))).length : Int) (Ar.std.len (eInt (cNs (bl (stepN l (2 ^ x) (lab : Int)))))) = false from by rw [eIc_len]; exact geN _, cond_false])
    have hany : (List.range (bl (stepN l (2 ^ x) (lab : Int))).length).any (fun i => ((bl (stepN l (2 ^ x) (lab : Int)))[i]?.map fun to => decide (f to &&& comesN m' l' (2 ^ y) (lab : Int) = 0)).getD false) = badL l m' l' f x y lab := by
      unfold badL
      rw [Bool.eq_iff_iff]
      simp only [List.any_eq_true, List.mem_range]
      constructor
      · rintro ⟨i, hi, h⟩
        rw [List.getElem?_eq_getElem hi, Option.map_some, Option.getD_some] at h
        exact ⟨_, List.getElem_mem hi, h⟩
      · rintro ⟨a, ha, h⟩
        obtain ⟨i, hi, rfl⟩ := List.getElem_of_mem ha
        exact ⟨i, hi, by rw [List.getElem?_eq_getElem hi, Option.map_some, Option.getD_some]; exact h⟩
    rw [hany] at inner
    have hix2 := ix3 lab x 0
    rw [show 0 + 6 * lab + x = 6 * lab + x from by omega] at hix2
    have e0 : (((0 : Nat) : Int)) = 0 := rfl
    have hL : iter (R99L0 Ar.std (rU f) (y : Int) (FR m' l' (tF m' l')) (lab : Int) (eInt (cNs (bl (stepN l (2 ^ x) (lab : Int)))))) 0 = some (bif badL l m' l' f x y lab then .inr () else .inl ()) := by
      rw [← e0]
      rcases inner with ⟨h1, _, h3⟩ | ⟨h1, z, h3⟩
      · rw [h1]; exact h3
      · rw [h1]; exact h3
    have hstep : R99L1 Ar.std (rU f) (x : Int) (y : Int) (FR m l (tF m l)) (FR m' l' (tF m' l')) (lab : Int) = some (bif badL l m' l' f x y lab then .inr (.inr ()) else .inl ((lab + 1 : Nat) : Int)) := by
      unfold R99L1
      rw [lt4 hlab, cond_true, ckN, bsome, ckL hlab, bsome, ckN, bsome, ckL hx, bsome, hix2, FR_gc _ _ _ (by omega), bsome, hs, R76_eq _ hst, bsome, hL, bsome, inc (by omega : lab < 100) (by decide)]
      cases badL l m' l' f x y lab <;> rfl
    exact ⟨fun hb => by rw [hstep, hb, cond_false], fun hb => ⟨(), by rw [hstep, hb, cond_true]⟩⟩) (fun _ => by
    unfold R99L1
    rw [show Ar.std.zlt ((4 : Nat) : Int) 4 = false from rfl, cond_false])
  have e0 : (((0 : Nat) : Int)) = 0 := rfl
  rw [e0, keep_labels S.ok] at key
  unfold R99 keepN
  rw [rU_len, bsome]
  rcases key with ⟨h1, _, h3⟩ | ⟨h1, z, h3⟩
  · rw [h3, bsome, h1]; rfl
  · rw [h3, bsome, h1]; rfl
theorem R96_eq {m m' : Nat} {l l' : List St3} (S : Sys m l) (S' : Sys m' l') (hl : l.length < Lg) {f : Nat → Nat} (hf : ∀ i, f i < 64) {x y : Nat} (hy : y < m') : R96 Ar.std (m : Int) (eSt l) (m' : Int) (eSt l') 0 (m : Int) (x : Int) (y : Int) (rI m f) = some (keepN l m' l' f x y) := by
  have hm' := S'.le
  have key := iter_any (step := R96L0 Ar.std (eSt l) (m' : Int) (eSt l') 0 (m : Int) (x : Int) (y : Int) (rI m f)) l (badK m' l' f x y) (.inr ()) (.inl ()) (fun i z hz hi => by
    have hok := S.ok.2 z (List.mem_of_getElem? hz)
    have hB := S.sb z (List.mem_of_getElem? hz)
    have hget : gt Ar.std cSt (eSt l) (i : Int) = some z := gt_enc hz
    have hpy : 2 ^ y < 2 ^ m' := Nat.pow_lt_pow_right (by decide) hy
    have hc64 : comesN m' l' (2 ^ y) z.2.1 < 64 := lt64 hm' (comesN_ltB S'.sb hpy _)
    have h74 := R74_eq (m' : Int) (by omega) (by omega) S'.ok (2 ^ y) (lt64 hm' hpy) z.2.1
    unfold R96L0 badK
    rw [ltS hi, cond_true, hget, bsome]
    obtain ⟨t, ht⟩ : ∃ t : Nat, z.2.2 = (t : Int) := ⟨z.2.2.toNat, by omega⟩
    have htm : t < m := by rw [ht] at hB; simpa using hB
    have hin : (bif Ar.std.zeq z.1 (x : Int) then (nk (Ar.std.zlt (y : Int) 0)).bind fun _ => (R74 Ar.std (m' : Int) (eSt l') (Ar.std.shl .i64 1 (y : Int)) z.2.1).bind fun r44 => (ck (Ar.std.zle 0 z.2.2)).bind fun _ => (ck (Ar.std.zlt z.2.2 (m : Int))).bind fun _ => (gc Ar.std (cI .i64) (rI m f) (Ar.std.nat (Ar.std.zadd 0 z.2.2))).bind fun a49 => some (Ar.std.zeq (Ar.std.bits .and .i64 r44 a49) 0) else some false) = some (decide (z.1 = (x : Int)) && decide (comesN m' l' (2 ^ y) z.2.1 &&& f z.2.2.toNat = 0)) := by
      rw [std_zeq, ht]
      cases decide (z.1 = (x : Int)) with
      | false => rfl
      | true =>
        rw [cond_true, nkN, bsome, shlI (by omega), h74, bsome, ckN, bsome, ckL' htm, bsome, zaddZ, rI_gc _ htm, bsome, andI hc64 (hf t), zeqN, Int.toNat_natCast]; rfl
    dsimp only
    rw [hin, bsome, inc hi hl]
    cases (decide (z.1 = (x : Int)) && decide (comesN m' l' (2 ^ y) z.2.1 &&& f z.2.2.toNat = 0)) <;> rfl) (by
    unfold R96L0
    rw [geS, cond_false])
  unfold R96 keepN
  rw [key, bsome]
  cases l.any (badK m' l' f x y) <;> rfl
end Go.Am

set_option maxRecDepth 100000
set_option linter.unusedVariables false
set_option linter.unusedSimpArgs false
set_option linter.unusedSectionVars false
namespace Go.Am
open Go
section
variable {m m' : Nat} {l l' : List St3}
def allF (m m' : Nat) (x : Nat) : Nat := if x < m then 2 ^ m' - 1 else 0
theorem allF_size : ∀ (m m' : Fin 7), sizeF (allF m.val m'.val) ≤ m.val * m'.val := by decide +kernel
def bestF (m : Nat) (l : List St3) (m' : Nat) (l' : List St3) : Nat → Nat := itr (dws (keepN l m' l') m) (m * m') (allF m m')
theorem clr_ltB {a y n : Nat} (h : a < 2 ^ n) : clr a y < 2 ^ n := Nat.lt_of_le_of_lt Nat.and_le_left h
theorem dwc_inB {K : (Nat → Nat) → Nat → Nat → Bool} {x y : Nat} {f : Nat → Nat} (h : ∀ i, f i < 2 ^ m') (i : Nat) : dwc K x f y i < 2 ^ m' := by
  unfold dwc
  cases K f x y with
  | true => exact h i
  | false =>
    show upd f x (clr (f x) y) i < _
    unfold upd; split
    · exact clr_ltB (h x)
    · exact h i
theorem fold_inv {γ S : Type} {P : S → Prop} {g : S → γ → S} (hg : ∀ f c, P f → P (g f c)) : ∀ (l : List γ) (f : S), P f → P (l.foldl g f)
  | [], f, h => h
  | c :: l, f, h => fold_inv hg l (g f c) (hg f c h)
theorem dwx_inB {K : (Nat → Nat) → Nat → Nat → Bool} {x : Nat} {f : Nat → Nat} (h : ∀ i, f i < 2 ^ m') : ∀ i, dwx K f x i < 2 ^ m' := fold_inv (g := dwc K x) (P := fun f => ∀ i, f i < 2 ^ m') (fun f c h => dwc_inB (f := f) h) _ f h
theorem dws_inB {K : (Nat → Nat) → Nat → Nat → Bool} {f : Nat → Nat} (h : ∀ i, f i < 2 ^ m') : ∀ i, dws K m f i < 2 ^ m' := fold_inv (g := dwx K) (P := fun f => ∀ i, f i < 2 ^ m') (fun f c h => dwx_inB (f := f) h) _ f h
theorem itr_inB {K : (Nat → Nat) → Nat → Nat → Bool} : ∀ (k : Nat) {f : Nat → Nat}, (∀ i, f i < 2 ^ m') → ∀ i, itr (dws K m) k f i < 2 ^ m'
  | 0, f, h => h
  | k + 1, f, h => itr_inB k (dws_inB h)
theorem allF_inB (i : Nat) : allF m m' i < 2 ^ m' := by
  have := Nat.two_pow_pos m'
  unfold allF; split <;> omega
theorem lt2 {m' : Nat} (hm' : m' ≤ 6) {f : Nat → Nat} (h : ∀ i, f i < 2 ^ m') : ∀ i, f i < 64 := fun i => lt64 hm' (h i)
theorem andNotS {a y : Nat} (ha : a < 64) (hy : y < 6) : Ar.std.bits .andNot .u8 (a : Int) ((2 ^ y : Nat) : Int) = ((clr a y : Nat) : Int) := by rw [std_bits]; exact andNot_u8 ⟨a, ha⟩ ⟨y, hy⟩
theorem R90L1_eq (S : Sys m l) (S' : Sys m' l') {x : Nat} (hx : x < 6) {a : Nat} (ha : a < 2 ^ m') (s0 : Bool × (Nat → Nat)) (h0 : ∀ i, s0.2 i < 2 ^ m') :
    iter (R90L1 Ar.std (FR m l (tF m l)) (FR m' l' (tF m' l')) (x : Int) (eInt (cNs (bl a)))) (s0.1, 0, rU s0.2) = some (((bl a).foldl (swc (keepN l m' l') x) s0).1, rU ((bl a).foldl (swc (keepN l m' l') x) s0).2) := by
  have hm' := S'.le
  have hb := bl_len a
  have key := iter_foldI (step := R90L1 Ar.std (FR m l (tF m l)) (FR m' l' (tF m' l')) (x : Int) (eInt (cNs (bl a)))) (bl a) (fun (s : Bool × (Nat → Nat)) i => (s.1, (i : Int), rU s.2)) (swc (keepN l m' l') x) (fun s => (s.1, rU s.2)) (fun s => ∀ i, s.2 i < 2 ^ m') (fun i y s hy hi hI => by
    refine ⟨?_, by rw [swc_snd]; exact dwc_inB hI⟩
    have hym : y < m' := bl_lt ha (List.mem_of_getElem? hy)
    have hy6 : y < 6 := by omega
    have hlt : Ar.std.zlt (i : Int) (Ar.std.len (eInt (cNs (bl a)))) = true := by rw [eIc_len]; exact ltN hi
    have hgt : gt Ar.std (cI .i64) (eInt (cNs (bl a))) (i : Int) = some (y : Int) := gt_enc (cNs_get hy)
    unfold R90L1 swc
    dsimp only
    rw [hlt, cond_true, hgt, bsome, rU_ga, bsome, R99_eq S S' (lt2 hm' hI) hx hym, bsome, inc (by omega : i < 100) (by decide)]
    cases keepN l m' l' s.2 x y with
    | true => rfl
    | false =>
      rw [cond_false, cond_false, ckN, bsome, ckL hx, bsome, ix1, rU_gc _ hx, bsome, nkN, bsome, bsome, bsome, rU_lget _ hx, bsome, bsome, shlS (by omega), andNotS (lt2 hm' hI x) hy6, rU_lset]) (fun s _ => by
    unfold R90L1
    dsimp only
    rw [show Ar.std.zlt ((bl a).length : Int) (Ar.std.len (eInt (cNs (bl a)))) = false from by rw [eIc_len]; exact geN _, cond_false]) s0 h0
  exact key
theorem range_get {n i : Nat} {a : Nat} (h : (List.range n)[i]? = some a) : a = i ∧ i < n := by
  rw [List.getElem?_eq_some_iff] at h
  obtain ⟨h1, h2⟩ := h
  rw [List.length_range] at h1
  rw [List.getElem_range] at h2
  exact ⟨h2.symm, h1⟩
theorem R90L2_eq (S : Sys m l) (S' : Sys m' l') (s0 : Bool × (Nat → Nat)) (h0 : ∀ i, s0.2 i < 2 ^ m') :
    iter (R90L2 Ar.std (FR m l (tF m l)) (FR m' l' (tF m' l')) (m : Int)) (s0.1, 0, rU s0.2) = some (((List.range m).foldl (swx (keepN l m' l')) s0).1, rU ((List.range m).foldl (swx (keepN l m' l')) s0).2) := by
  have hm := S.le
  have hm' := S'.le
  have key := iter_foldI (step := R90L2 Ar.std (FR m l (tF m l)) (FR m' l' (tF m' l')) (m : Int)) (List.range m) (fun (s : Bool × (Nat → Nat)) i => (s.1, (i : Int), rU s.2)) (swx (keepN l m' l')) (fun s => (s.1, rU s.2)) (fun s => ∀ i, s.2 i < 2 ^ m') (fun i x s hx hi hI => by
    refine ⟨?_, by rw [swx_snd]; exact dwx_inB hI⟩
    obtain ⟨rfl, hi⟩ := range_get hx
    unfold R90L2 swx
    dsimp only
    rw [ltN hi, cond_true, ckN, bsome, ckL (by omega : x < 6), bsome, ix1, rU_gc _ (by omega), bsome, R76_eq _ (lt2 hm' hI x), bsome, R90L1_eq S S' (by omega) (hI x) s hI, bsome, inc (by omega : x < 100) (by decide)]) (fun s _ => by
    unfold R90L2
    dsimp only
    rw [List.length_range, geN, cond_false]) s0 h0
  exact key
theorem FR_gc0' (n : Int) (l : List St3) (f : Nat → Nat) : gc Ar.std (cI .i64) (FR n l f) (Ar.std.nat 0) = some n := FR_gc0 n l f
theorem R90L3_eq (S : Sys m l) (S' : Sys m' l') : ∀ (n : Nat) (f : Nat → Nat), (∀ i, f i < 2 ^ m') → sizeF f ≤ n →
    iter (R90L3 Ar.std (FR m l (tF m l)) (FR m' l' (tF m' l'))) (true, rU f) = some (rU (itr (dws (keepN l m' l') m) n f)) := by
  have step : ∀ (f : Nat → Nat), (∀ i, f i < 2 ^ m') → R90L3 Ar.std (FR m l (tF m l)) (FR m' l' (tF m' l')) (true, rU f) = some (.inl ((sws (keepN l m' l') m f).1, rU (sws (keepN l m' l') m f).2)) := fun f hf => by
    unfold R90L3
    dsimp only
    rw [cond_true, FR_gc0', bsome, R90L2_eq S S' (false, f) hf, bsome]; rfl
  have stop : ∀ (f : Nat → Nat), R90L3 Ar.std (FR m l (tF m l)) (FR m' l' (tF m' l')) (false, rU f) = some (.inr (rU f)) := fun f => by
    unfold R90L3
    dsimp only
    rw [cond_false]
  intro n
  induction n with
  | zero =>
    intro f hf hs
    have h := sws_ch (K := keepN l m' l') S.le (lt2 S'.le hf)
    have hst := step f hf
    cases hc : (sws (keepN l m' l') m f).1 with
    | false =>
      rw [hc, (h.1.no hc).2] at hst
      rw [iter_inl hst, iter_inr (stop f)]; rfl
    | true =>
      rcases h.1.yes hc with a | a
      · cases a
      · have : sizeF (sws (keepN l m' l') m f).2 < sizeF f := a
        omega
  | succ n ih =>
    intro f hf hs
    have h := sws_ch (K := keepN l m' l') S.le (lt2 S'.le hf)
    have hst := step f hf
    cases hc : (sws (keepN l m' l') m f).1 with
    | false =>
      rw [itr_fix (fix_of S.le (lt2 S'.le hf) hc)]
      rw [hc, (h.1.no hc).2] at hst
      rw [iter_inl hst, iter_inr (stop f)]
    | true =>
      rcases h.1.yes hc with a | a
      · cases a
      · have a' : sizeF (dws (keepN l m' l') m f) < sizeF f := by rw [← sws_snd]; exact a
        rw [hc, sws_snd] at hst
        rw [iter_inl hst, itr]
        exact ih _ (dws_inB hf) (by omega)
theorem bestF_inB : ∀ i, bestF m l m' l' i < 2 ^ m' := itr_inB _ allF_inB
theorem R90_eq (S : Sys m l) (S' : Sys m' l') : R90 Ar.std (FR m l (tF m l)) (FR m' l' (tF m' l')) = some (rU (bestF m l m' l')) := by
  have hm := S.le
  have hm' := S'.le
  have h2 : 2 ^ m' ≤ 64 := Nat.pow_le_pow_right (n := 2) (by decide) hm'
  have hp := Nat.two_pow_pos m'
  have key := iter_to (step := R90L0 Ar.std (FR m' l' (tF m' l')) (m : Int)) m (fun i => ((i : Int), rU (allF i m'))) (rU (allF m m')) (fun i hi => by
    have hw : Ar.std.wrp .u8 (Ar.std.zsub (Ar.std.shl .u8 1 (m' : Int)) 1) = ((2 ^ m' - 1 : Nat) : Int) := by
      rw [shlS (by omega), std_wrp, std_zsub, u8w _ (by omega) (by omega)]; omega
    have hu : upd (allF i m') i (2 ^ m' - 1) = allF (i + 1) m' := by
      funext j
      unfold upd allF
      by_cases h : j = i
      · rw [if_pos h, if_pos (by omega)]
      · rw [if_neg h]
        by_cases h2 : j < i
        · rw [if_pos h2, if_pos (by omega)]
        · rw [if_neg h2, if_neg (by omega)]
    unfold R90L0
    dsimp only
    rw [ltN hi, cond_true, FR_gc0', bsome, nkN, bsome, ckN, bsome, ckL (by omega : i < 6), bsome, ix1, rU_lget _ (by omega), bsome, hw, rU_lset, hu, inc (by omega : i < 100) (by decide)]) (by
    unfold R90L0
    dsimp only
    rw [geN, cond_false])
  have e0 : rU (allF 0 m') = rU fun _ => 0 := rU_congr fun i _ => by unfold allF; rw [if_neg (by omega)]
  rw [e0] at key
  have hsz : sizeF (allF m m') ≤ m * m' := allF_size ⟨m, by omega⟩ ⟨m', by omega⟩
  have h3 := R90L3_eq S S' (m * m') (allF m m') allF_inB hsz
  unfold R90
  have key' : iter (R90L0 Ar.std (FR m' l' (tF m' l')) (m : Int)) (0, Ar.std.rep (Int.ofNat 6) (.int .u8 0)) = some (rU (allF m m')) := by rw [rU_rep]; exact key
  rw [FR_gc0', bsome, key', bsome, h3, bsome]
  show (ga Ar.std (rU (bestF m l m' l')) _ _).bind _ = _
  rw [rU_ga, bsome, rU_len, bsome, rU_room, bsome, rU_spl, rU_len, bsome, rU_ones, bsome]
end
end Go.Am

set_option maxRecDepth 100000
set_option linter.unusedVariables false
set_option linter.unusedSimpArgs false
set_option linter.unusedSectionVars false
namespace Go.Am
open Go
section
variable {m m' : Nat} {l l' : List St3}
theorem fits6 {m : Nat} (h : m ≤ 6) : ck (Ar.std.fits (m : Int)) = some () := ck_of (by rw [std_fits]; exact decide_eq_true (by omega))
theorem zle0 (m : Nat) : ck (Ar.std.zle 0 (m : Int)) = some () := ckN m
theorem ckS (x : Int) : ck (Ar.std.zeq x x) = some () := ck_of (zeqS x)
end
def bst (n : Int) (l : List St3) (n' : Int) (l' : List St3) : List P2 × Int :=
  bif vSys n l && vSys n' l' then (prs n.toNat (bestF n.toNat l n'.toNat l'), 0) else ([], 50)
theorem bestF_out {m m' : Nat} {l l' : List St3} (hm : m ≤ 6) {x : Nat} (hx : m ≤ x) : bestF m l m' l' x = 0 := by
  have key : ∀ (k : Nat) (f : Nat → Nat), f x = 0 → itr (dws (keepN l m' l') m) k f x = 0 := by
    intro k
    induction k with
    | zero => exact fun f h => h
    | succ k ih =>
      intro f h
      refine ih _ ?_
      unfold dws
      refine fold_inv (g := dwx (keepN l m' l')) (P := fun f => f x = 0) (fun f c h => ?_) _ f h
      unfold dwx
      refine fold_inv (g := dwc (keepN l m' l') c) (P := fun f => f x = 0) (fun f y h => ?_) _ f h
      unfold dwc
      cases keepN l m' l' f c y with
      | true => exact h
      | false =>
        show upd f c (clr (f c) y) x = 0
        unfold upd
        by_cases hx : x = c
        · subst hx
          rw [if_pos rfl, h]; simp [clr]
        · rw [if_neg hx]; exact h
  exact key _ _ (by unfold allF; rw [if_neg (by omega)])
theorem prs6 {m m' : Nat} {l l' : List St3} (hm : m ≤ 6) : prs 6 (bestF m l m' l') = prs m (bestF m l m' l') := by
  have h := prs_zero (n := m) (f := bestF m l m' l') (fun i hi => bestF_out hm hi) (6 - m)
  rw [show m + (6 - m) = 6 from by omega] at h
  exact h
theorem R47_eq (n n' : Int) (l l' : List St3) (hl : l.length < Lg) (hl' : l'.length < Lg) : R47 Ar.std n (eSt l) n' (eSt l') = some (ePr (bst n l n' l').1, (bst n l n' l').2) := by
  unfold R47 bst
  rw [R70_eq n n' l l' hl hl', bsome]
  cases hv : vSys n l with
  | false => rfl
  | true =>
    cases hv' : vSys n' l' with
    | false => rfl
    | true =>
      obtain ⟨m, rfl, S⟩ := Sys.of hv
      obtain ⟨m', rfl, S'⟩ := Sys.of hv'
      have e : R90 Ar.std (FR m l (tF m l)) (FR m' l' (tF m' l')) = some (rU (bestF m l m' l')) := R90_eq S S'
      have h6 := R86_eq (f := bestF m l m' l') (lt2 S'.le bestF_inB)
      simp only [cond_true, Int.toNat_natCast, Bool.and_self, Sum.elim_inl]
      rw [e, bsome, h6, bsome, prs6 S.le]
def rfn (n : Int) (l : List St3) (n' : Int) (l' : List St3) : Bool × Int :=
  bif vSys n l && vSys n' l' then ((bestF n.toNat l n'.toNat l' 0).testBit 0, 0) else (false, 50)
theorem R91_eq {a i : Nat} (ha : a < 64) (hi : i < 6) : R91 Ar.std (a : Int) (i : Int) = some (a.testBit i) := by
  unfold R91
  rw [nkN, bsome]
  have h := has_u8 a i (by omega) (by omega)
  simp only [std_zeq, std_bits, std_shr]
  rw [h]
theorem R44_eq (n n' : Int) (l l' : List St3) (hl : l.length < Lg) (hl' : l'.length < Lg) : R44 Ar.std n (eSt l) n' (eSt l') = some (rfn n l n' l') := by
  unfold R44 rfn
  rw [R70_eq n n' l l' hl hl', bsome]
  cases hv : vSys n l with
  | false => rfl
  | true =>
    cases hv' : vSys n' l' with
    | false => rfl
    | true =>
      obtain ⟨m, rfl, S⟩ := Sys.of hv
      obtain ⟨m', rfl, S'⟩ := Sys.of hv'
      have e : R90 Ar.std (FR m l (tF m l)) (FR m' l' (tF m' l')) = some (rU (bestF m l m' l')) := R90_eq S S'
      have h9 : R91 Ar.std ((bestF m l m' l' 0 : Nat) : Int) 0 = some ((bestF m l m' l' 0).testBit 0) := R91_eq (i := 0) (lt2 S'.le bestF_inB 0) (by decide)
      simp only [cond_true, Int.toNat_natCast, Bool.and_self, Sum.elim_inl]
      rw [e, bsome, rU_gc _ (by decide), bsome, h9, bsome]
end Go.Am

set_option maxRecDepth 100000
set_option linter.unusedVariables false
set_option linter.unusedSimpArgs false
set_option linter.unusedSectionVars false
namespace Go.Am
open Go
def keepP (l : List St3) (m' : Nat) (l' : List St3) (f : Nat → Nat) (p : P2) : Bool := keepN l m' l' f p.1.toNat p.2.toNat
def isPr (n : Int) (l : List St3) (n' : Int) (l' : List St3) (r : List P2) : Bool × Int :=
  bif vSys n l && vSys n' l' then bif isRel n.toNat n'.toNat r then (r.all (keepP l n'.toNat l' (relF r)), 0) else (false, 2) else (false, 50)
section
variable {m m' : Nat} {l l' : List St3} (S : Sys m l) (S' : Sys m' l')
include S S'
theorem R48L0_eq {r : List P2} (hr : r.length < Lg) (hp : ∀ p ∈ r, (0 ≤ p.1 ∧ p.1.toNat < m) ∧ (0 ≤ p.2 ∧ p.2.toNat < m')) : iter (R48L0 Ar.std (m : Int) (ePr r)) (0, rI m fun _ => 0) = some (rI m (relF r)) := by
  have hm' := S'.le
  have key := iter_foldI (step := R48L0 Ar.std (m : Int) (ePr r)) r (fun (f : Nat → Nat) i => ((i : Int), rI m f)) putP (rI m) (fun f => ∀ i, f i < 64) (fun i p f hi hlt hI => by
    have hpp := hp p (List.mem_of_getElem? hi)
    refine ⟨?_, putP_lt hI (by omega)⟩
    have hget : gt Ar.std cP (ePr r) (i : Int) = some p := gt_enc hi
    obtain ⟨a, ha⟩ : ∃ a : Nat, p.1 = (a : Int) := ⟨p.1.toNat, by omega⟩
    obtain ⟨b, hb⟩ : ∃ b : Nat, p.2 = (b : Int) := ⟨p.2.toNat, by omega⟩
    have ham : a < m := by have := hpp.1.2; rw [ha] at this; simpa using this
    have hb6 : b < 6 := by have := hpp.2.2; rw [hb] at this; simp at this; omega
    unfold R48L0 putP
    dsimp only
    rw [ltS hlt, cond_true, hget, bsome]
    rw [ha, hb, ckN, bsome, ckL' ham, bsome, zaddZ, rI_gc _ ham, bsome, nkN, bsome, bsome, bsome, rI_lget _ ham, bsome, shlI (by omega), orI (hI a) (pow6 hb6), rI_lset, inc hlt hr]; rfl) (fun s _ => by
    unfold R48L0
    dsimp only
    rw [geS, cond_false]) (fun _ => 0) (fun _ => by decide)
  exact key
theorem R48L1_eq (hl : l.length < Lg) {f : Nat → Nat} (hf : ∀ i, f i < 64) {r : List P2} (hr : r.length < Lg) (hp : ∀ p ∈ r, (0 ≤ p.1 ∧ p.1.toNat < m) ∧ (0 ≤ p.2 ∧ p.2.toNat < m')) :
    iter (R48L1 Ar.std (m : Int) (eSt l) (m' : Int) (eSt l') (ePr r) (rI m f)) 0 = some (bif r.any (fun p => !keepP l m' l' f p) then .inr () else .inl ()) := by
  refine iter_any (step := R48L1 Ar.std (m : Int) (eSt l) (m' : Int) (eSt l') (ePr r) (rI m f)) r (fun p => !keepP l m' l' f p) (.inr ()) (.inl ()) (fun i p hi hlt => ?_) ?_
  · have hget : gt Ar.std cP (ePr r) (i : Int) = some p := gt_enc hi
    have hpp := hp p (List.mem_of_getElem? hi)
    have h := R96_eq S S' hl hf (x := p.1.toNat) (y := p.2.toNat) hpp.2.2
    rw [show ((p.1.toNat : Nat) : Int) = p.1 from by omega, show ((p.2.toNat : Nat) : Int) = p.2 from by omega] at h
    unfold R48L1
    rw [ltS hlt, cond_true, hget, bsome]
    dsimp only
    rw [h, bsome, inc hlt hr]
    show (bif keepP l m' l' f p then _ else _) = _
    cases keepP l m' l' f p <;> rfl
  · unfold R48L1
    rw [geS, cond_false]
end
theorem R48_eq (n n' : Int) (l l' : List St3) (hl : l.length < Lg) (hl' : l'.length < Lg) (r : List P2) (hr : r.length < Lg) : R48 Ar.std n (eSt l) n' (eSt l') (ePr r) = some (isPr n l n' l' r) := by
  unfold R48 isPr
  rw [R34_eq n l hl, bsome]
  cases hv : vSys n l with
  | false => rfl
  | true =>
    rw [cond_true, R34_eq n' l' hl', bsome]
    cases hv' : vSys n' l' with
    | false => rfl
    | true =>
      obtain ⟨m, rfl, S⟩ := Sys.of hv
      obtain ⟨m', rfl, S'⟩ := Sys.of hv'
      rw [Bool.not_true, bsome, cond_false, R87_eq r hr, bsome, Bool.and_self, cond_true, Int.toNat_natCast, Int.toNat_natCast]
      cases hv2 : isRel m m' r with
      | false => rfl
      | true =>
        have hok := isRel_ok hv2
        rw [cond_true, ckS, bsome, zle0, bsome, fits6 S.le, bsome, rI_rep, R48L0_eq S S' hr hok, bsome, R48L1_eq S S' hl (relF_lt6 S'.le hv2) hr hok, bsome, any_notB]
        cases r.all (keepP l m' l' (relF r)) <;> rfl
end Go.Am

set_option maxRecDepth 100000
set_option linter.unusedVariables false
set_option linter.unusedSimpArgs false
set_option linter.unusedSectionVars false
namespace Go.Am
open Go
def mem2 (f : Nat → Nat) (x y : Nat) : Prop := (f x).testBit y = true
theorem subF_mem {f g : Nat → Nat} (h : subF f g) {x y : Nat} (hm : mem2 f x y) : mem2 g x y := (h x).test hm
theorem subF_of {f g : Nat → Nat} (h : ∀ x y, mem2 f x y → mem2 g x y) : subF f g := fun x => by
  refine Nat.eq_of_testBit_eq fun z => ?_
  rw [Nat.testBit_or]
  cases hz : (f x).testBit z with
  | false => rfl
  | true => rw [show (g x).testBit z = true from h x z hz]; rfl
theorem subF.refl (f : Nat → Nat) : subF f f := fun x => Wi.refl _
theorem subF.trans {f g h : Nat → Nat} (a : subF f g) (b : subF g h) : subF f h := fun x => (a x).trans (b x)
theorem subF.antisymm {f g : Nat → Nat} (a : subF f g) (b : subF g f) : f = g := funext fun x => (a x).antisymm (b x)
def addF (f : Nat → Nat) (x y : Nat) : Nat → Nat := upd f x (f x ||| 2 ^ y)
theorem addF_mem (f : Nat → Nat) (x y a b : Nat) : mem2 (addF f x y) a b ↔ mem2 f a b ∨ (a = x ∧ b = y) := by
  unfold mem2 addF upd
  by_cases h : a = x
  · subst h
    rw [if_pos rfl, Nat.testBit_or, Nat.testBit_two_pow]
    simp only [Bool.or_eq_true, decide_eq_true_eq, true_and]
    constructor <;> rintro (h | h) <;> first | exact .inl h | exact .inr h.symm
  · rw [if_neg h]
    constructor
    · exact .inl
    · rintro (h' | h')
      · exact h'
      · exact absurd h'.1 h
theorem addF_sub (f : Nat → Nat) (x y : Nat) : subF f (addF f x y) := subF_of fun a b h => (addF_mem f x y a b).2 (.inl h)
theorem addF_lt {f : Nat → Nat} {n x y : Nat} (h : ∀ i, f i < 2 ^ n) (hy : y < n) (i : Nat) : addF f x y i < 2 ^ n := by
  unfold addF upd
  split
  · exact or_lt (h x) (Nat.pow_lt_pow_right (by decide) hy)
  · exact h i
theorem card_mono {a b : Nat} (h : Wi a b) : card 6 a ≤ card 6 b := countP_le (fun z hz => h.test hz) _
theorem size_mono {f g : Nat → Nat} (h : subF f g) : sizeF f ≤ sizeF g := by
  unfold sizeF
  have := card_mono (h 0); have := card_mono (h 1); have := card_mono (h 2); have := card_mono (h 3); have := card_mono (h 4); have := card_mono (h 5)
  omega
theorem card_lt {a b y : Nat} (h : Wi a b) (hy : y < 6) (ha : a.testBit y = false) (hb : b.testBit y = true) : card 6 a < card 6 b :=
  countP_lt (fun z hz => h.test hz) (List.mem_range.2 hy) ha hb
theorem size_lt {f g : Nat → Nat} (h : subF f g) {x y : Nat} (hx : x < 6) (hy : y < 6) (hf : (f x).testBit y = false) (hg : mem2 g x y) : sizeF f < sizeF g := by
  have c := card_lt (h x) hy hf hg
  have := card_mono (h 0); have := card_mono (h 1); have := card_mono (h 2); have := card_mono (h 3); have := card_mono (h 4); have := card_mono (h 5)
  unfold sizeF
  match x, hx with
  | 0, _ => omega
  | 1, _ => omega
  | 2, _ => omega
  | 3, _ => omega
  | 4, _ => omega
  | 5, _ => omega
section
variable (m' : Nat) (l' : List St3) (r : Nat → Nat)
def nx (y : Nat) (z : St3) : Nat := Lib.trailingZeros8 (r z.2.2.toNat &&& comesN m' l' (2 ^ y) z.2.1)
def Clo (l : List St3) (h : Nat → Nat) : Prop := ∀ (x y : Nat) (z : St3), z ∈ l → z.1 = (x : Int) → mem2 h x y → mem2 h z.2.2.toNat (nx m' l' r y z)
structure Least (l : List St3) (g : Nat → Nat) : Prop where
  clo : Clo m' l' r l g
  fst : mem2 g 0 0
  min : ∀ h, Clo m' l' r l h → mem2 h 0 0 → subF g h
theorem Least.same {l : List St3} {g g' : Nat → Nat} (h : Least m' l' r l g) (h' : Least m' l' r l g') : g = g' :=
  (h.min g' h'.clo h'.fst).antisymm (h'.min g h.clo h.fst)
end
theorem tz_bl {s : Nat} (h : s < 64) (h0 : s ≠ 0) : bl s = Lib.trailingZeros8 s :: bl (s &&& (s - 1)) := bl_step ⟨s, h⟩ h0
theorem tz_mem {s : Nat} (h : s < 64) (h0 : s ≠ 0) : s.testBit (Lib.trailingZeros8 s) = true ∧ Lib.trailingZeros8 s < 6 := by
  have := tz_bl h h0
  have hm : Lib.trailingZeros8 s ∈ bl s := by rw [this]; exact List.mem_cons_self
  exact ⟨(mem_bl.1 hm).2, (mem_bl.1 hm).1⟩
section
variable {m m' : Nat} {l l' : List St3}
theorem keep_ne {f : Nat → Nat} {x y : Nat} (h : keepN l m' l' f x y = true) {z : St3} (hz : z ∈ l) (hx : z.1 = (x : Int)) : f z.2.2.toNat &&& comesN m' l' (2 ^ y) z.2.1 ≠ 0 := by
  unfold keepN at h
  rw [Bool.not_eq_true', Bool.eq_false_iff] at h
  intro h0
  refine h (List.any_eq_true.2 ⟨z, hz, ?_⟩)
  unfold badK
  rw [decide_eq_true hx, Nat.and_comm, decide_eq_true h0]; rfl
theorem keep_iff {f : Nat → Nat} {x y : Nat} : keepN l m' l' f x y = true ↔ ∀ z ∈ l, z.1 = (x : Int) → f z.2.2.toNat &&& comesN m' l' (2 ^ y) z.2.1 ≠ 0 := by
  refine ⟨fun h z hz hx => keep_ne h hz hx, fun h => ?_⟩
  unfold keepN
  rw [Bool.not_eq_true', Bool.eq_false_iff]
  intro ha
  obtain ⟨z, hz, hb⟩ := List.any_eq_true.1 ha
  unfold badK at hb
  simp only [Bool.and_eq_true, decide_eq_true_eq] at hb
  refine h z hz hb.1 ?_
  rw [Nat.and_comm]; exact hb.2
theorem keep_mono {f g : Nat → Nat} {x y : Nat} (h : subF f g) (hk : keepN l m' l' f x y = true) : keepN l m' l' g x y = true := by
  rw [keep_iff] at hk ⊢
  intro z hz hx h0
  refine hk z hz hx ?_
  refine Nat.eq_of_testBit_eq fun b => ?_
  have hb : (g z.2.2.toNat &&& comesN (m' : Int) l' (2 ^ y) z.2.1).testBit b = false := by rw [h0]; exact Nat.zero_testBit b
  rw [Nat.testBit_and] at hb
  rw [Nat.testBit_and, Nat.zero_testBit]
  cases hf : (f z.2.2.toNat).testBit b with
  | false => rfl
  | true => rw [(h _).test hf] at hb; exact hb
theorem bestF_pf (S : Sys m l) (S' : Sys m' l') : isPf (keepN l m' l') m (bestF m l m' l') := by
  have hm := S.le
  have hm' := S'.le
  have hsz : sizeF (allF m m') ≤ m * m' := allF_size ⟨m, by omega⟩ ⟨m', by omega⟩
  have hfix := dws_fix (K := keepN l m' l') hm (m * m') (f := allF m m') (lt2 hm' allF_inB) hsz
  exact (sws_ch hm (lt2 hm' bestF_inB)).2 hfix
theorem bestF_max (S : Sys m l) (S' : Sys m' l') {p : Nat → Nat} (hp : isPf (keepN l m' l') m p) (hall : subF p (allF m m')) : subF p (bestF m l m' l') :=
  itr_sub (K := keepN l m' l') (fun f g x y h hk => keep_mono h hk) hp _ (lt2 S'.le allF_inB) hall
theorem and_lt {a b n : Nat} (h : a < 2 ^ n) : a &&& b < 2 ^ n := Nat.lt_of_le_of_lt Nat.and_le_left h
theorem best_nx (S : Sys m l) (S' : Sys m' l') {x y : Nat} (h : mem2 (bestF m l m' l') x y) {z : St3} (hz : z ∈ l) (hx : z.1 = (x : Int)) :
    bestF m l m' l' z.2.2.toNat &&& comesN m' l' (2 ^ y) z.2.1 ≠ 0 ∧ mem2 (bestF m l m' l') z.2.2.toNat (nx m' l' (bestF m l m' l') y z) ∧ nx m' l' (bestF m l m' l') y z < m' := by
  have hm := S.le
  have hm' := S'.le
  have hxm : x < m := by
    rcases Nat.lt_or_ge x m with h1 | h1
    · exact h1
    · have := bestF_out (l := l) (m' := m') (l' := l') hm h1
      unfold mem2 at h
      rw [this] at h; simp at h
  have hy : y < m' := by
    rcases Nat.lt_or_ge y m' with h1 | h1
    · exact h1
    · have hb : bestF m l m' l' x < 2 ^ m' := bestF_inB x
      have : (bestF m l m' l' x).testBit y = false := Nat.testBit_lt_two_pow (Nat.lt_of_lt_of_le hb (Nat.pow_le_pow_right (by decide) h1))
      unfold mem2 at h
      rw [this] at h; cases h
  have hk := bestF_pf S S' x hxm y (mem_bl.2 ⟨by omega, h⟩)
  have hne := keep_ne hk hz hx
  have hlt : bestF m l m' l' z.2.2.toNat &&& comesN m' l' (2 ^ y) z.2.1 < 2 ^ m' := and_lt (bestF_inB _)
  have ht := tz_mem (lt64 hm' hlt) hne
  refine ⟨hne, ?_, ?_⟩
  · have := ht.1
    rw [Nat.testBit_and, Bool.and_eq_true] at this
    exact this.1
  · exact bl_lt hlt (mem_bl.2 ⟨ht.2, ht.1⟩)
theorem best_clo (S : Sys m l) (S' : Sys m' l') : Clo m' l' (bestF m l m' l') l (bestF m l m' l') := fun x y z hz hx h => (best_nx S S' h hz hx).2.1
def dn (m' : Nat) (l' : List St3) (r : Nat → Nat) (x y : Nat) (f : Nat → Nat) (z : St3) : Nat → Nat := bif decide (z.1 = (x : Int)) then addF f z.2.2.toNat (nx m' l' r y z) else f
def dn1 (l : List St3) (m' : Nat) (l' : List St3) (r : Nat → Nat) (x : Nat) (f : Nat → Nat) (y : Nat) : Nat → Nat := l.foldl (dn m' l' r x y) f
def dn2 (l : List St3) (m' : Nat) (l' : List St3) (r : Nat → Nat) (f : Nat → Nat) (x : Nat) : Nat → Nat := (bl (f x)).foldl (dn1 l m' l' r x) f
def dn3 (m : Nat) (l : List St3) (m' : Nat) (l' : List St3) (r : Nat → Nat) (f : Nat → Nat) : Nat → Nat := (List.range m).foldl (dn2 l m' l' r) f
theorem fold_sub {γ : Type} {g : (Nat → Nat) → γ → (Nat → Nat)} (hg : ∀ f c, subF f (g f c)) : ∀ (l : List γ) (f : Nat → Nat), subF f (l.foldl g f)
  | [], f => subF.refl f
  | c :: l, f => (hg f c).trans (fold_sub hg l (g f c))
theorem dn_sub (r : Nat → Nat) (x y : Nat) (f : Nat → Nat) (z : St3) : subF f (dn m' l' r x y f z) := by
  unfold dn
  cases decide (z.1 = (x : Int)) with
  | true => exact addF_sub _ _ _
  | false => exact subF.refl f
theorem dn1_sub (r : Nat → Nat) (x : Nat) (f : Nat → Nat) (y : Nat) : subF f (dn1 l m' l' r x f y) := fold_sub (fun f z => dn_sub r x y f z) _ f
theorem dn2_sub (r : Nat → Nat) (f : Nat → Nat) (x : Nat) : subF f (dn2 l m' l' r f x) := fold_sub (fun f y => dn1_sub r x f y) _ f
theorem dn3_sub (r : Nat → Nat) (f : Nat → Nat) : subF f (dn3 m l m' l' r f) := fold_sub (fun f x => dn2_sub r f x) _ f
theorem dn1_has (r : Nat → Nat) (x y : Nat) : ∀ (l : List St3) (f : Nat → Nat) {z : St3}, z ∈ l → z.1 = (x : Int) → mem2 (l.foldl (dn m' l' r x y) f) z.2.2.toNat (nx m' l' r y z)
  | w :: l, f, z, hz, hx => by
    rw [List.foldl_cons]
    rcases List.mem_cons.1 hz with rfl | hz
    · refine subF_mem (fold_sub (fun f z => dn_sub r x y f z) l _) ?_
      unfold dn
      rw [decide_eq_true hx, cond_true]
      exact (addF_mem _ _ _ _ _).2 (.inr ⟨rfl, rfl⟩)
    · exact dn1_has r x y l _ hz hx
theorem dn2_has (r : Nat → Nat) (x : Nat) : ∀ (ys : List Nat) (f : Nat → Nat) {y : Nat} {z : St3}, y ∈ ys → z ∈ l → z.1 = (x : Int) → mem2 (ys.foldl (dn1 l m' l' r x) f) z.2.2.toNat (nx m' l' r y z)
  | w :: ys, f, y, z, hy, hz, hx => by
    rw [List.foldl_cons]
    rcases List.mem_cons.1 hy with rfl | hy
    · exact subF_mem (fold_sub (fun f z => dn1_sub r x f z) ys _) (dn1_has r x y l f hz hx)
    · exact dn2_has r x ys _ hy hz hx
theorem dn3_has (r : Nat → Nat) : ∀ (xs : List Nat) (f : Nat → Nat) {x y : Nat} {z : St3}, x ∈ xs → y < 6 → mem2 f x y → z ∈ l → z.1 = (x : Int) → mem2 (xs.foldl (dn2 l m' l' r) f) z.2.2.toNat (nx m' l' r y z)
  | w :: xs, f, x, y, z, hxs, hy, hm, hz, hx => by
    rw [List.foldl_cons]
    rcases List.mem_cons.1 hxs with rfl | hxs
    · exact subF_mem (fold_sub (fun f z => dn2_sub r f z) xs _) (dn2_has r x _ f (mem_bl.2 ⟨hy, hm⟩) hz hx)
    · exact dn3_has r xs _ hxs hy (subF_mem (dn2_sub r f w) hm) hz hx
theorem fold_in {γ : Type} {h : Nat → Nat} {g : (Nat → Nat) → γ → (Nat → Nat)} : ∀ (l : List γ) (f : Nat → Nat), (∀ f, ∀ c ∈ l, subF f h → subF (g f c) h) → subF f h → subF (l.foldl g f) h
  | [], f, _, hf => hf
  | c :: l, f, hg, hf => fold_in l (g f c) (fun f d hd => hg f d (by simp [hd])) (hg f c (by simp) hf)
theorem dn3_in {r h : Nat → Nat} (hc : Clo m' l' r l h) {f : Nat → Nat} (hf : subF f h) : subF (dn3 m l m' l' r f) h := by
  refine fold_in _ f (fun f x _ hf => ?_) hf
  unfold dn2
  refine fold_in (g := dn1 l m' l' r x) _ f (fun g y hy hg => ?_) hf
  refine fold_in (g := dn m' l' r x y) _ g (fun k z hz hk => ?_) hg
  unfold dn
  by_cases hx : z.1 = (x : Int)
  · rw [decide_eq_true hx, cond_true]
    refine subF_of fun a b hab => ?_
    rcases (addF_mem _ _ _ _ _).1 hab with h1 | ⟨rfl, rfl⟩
    · exact subF_mem hk h1
    · exact hc x y z hz hx (subF_mem hf (mem_bl.1 hy).2)
  · rw [decide_eq_false hx]; exact hk
def ownF (m : Nat) (l : List St3) (m' : Nat) (l' : List St3) : Nat → Nat := itr (dn3 m l m' l' (bestF m l m' l')) (m * m') (addF (fun _ => 0) 0 0)
theorem mem_lt6 {h : Nat → Nat} {x y : Nat} (hh : ∀ i, h i < 64) (hm : mem2 h x y) : y < 6 := by
  rcases Nat.lt_or_ge y 6 with h1 | h1
  · exact h1
  · unfold mem2 at hm
    rw [high_false (hh x) h1] at hm; cases hm
theorem own_grow (S : Sys m l) (S' : Sys m' l') : ∀ (n : Nat) (f : Nat → Nat), subF f (bestF m l m' l') →
    Clo m' l' (bestF m l m' l') l (itr (dn3 m l m' l' (bestF m l m' l')) n f) ∨ sizeF f + n ≤ sizeF (itr (dn3 m l m' l' (bestF m l m' l')) n f)
  | 0, f, _ => .inr (Nat.le_refl _)
  | n + 1, f, hf => by
    have hm := S.le
    have hm' := S'.le
    rw [itr]
    have hF := dn3_in (m := m) (best_clo S S') hf
    by_cases hsz : sizeF f < sizeF (dn3 m l m' l' (bestF m l m' l') f)
    · rcases own_grow S S' n _ hF with h | h
      · exact .inl h
      · exact .inr (by omega)
    · have hsub := dn3_sub (m := m) (l := l) (m' := m') (l' := l') (bestF m l m' l') f
      have heq : dn3 m l m' l' (bestF m l m' l') f = f := by
        refine subF.antisymm (subF_of fun a b hab => ?_) hsub
        have hb := subF_mem hF hab
        have hb6 := mem_lt6 (lt2 hm' bestF_inB) hb
        have ha : a < 6 := by
          rcases Nat.lt_or_ge a 6 with h1 | h1
          · exact h1
          · unfold mem2 at hb
            rw [bestF_out (l := l) (m' := m') (l' := l') hm (by omega : m ≤ a)] at hb; simp at hb
        cases hfa : (f a).testBit b with
        | true => exact hfa
        | false => exact absurd (size_lt hsub ha hb6 hfa hab) hsz
      rw [heq, itr_fix heq]
      refine .inl fun x y z hz hx hmm => ?_
      have hb := subF_mem hf hmm
      have hxm : x < m := by
        rcases Nat.lt_or_ge x m with h1 | h1
        · exact h1
        · unfold mem2 at hb
          rw [bestF_out (l := l) (m' := m') (l' := l') hm h1] at hb; simp at hb
      have := dn3_has (m' := m') (l' := l') (bestF m l m' l') (List.range m) f (List.mem_range.2 hxm) (mem_lt6 (lt2 hm' bestF_inB) hb) hmm hz hx
      have e : (List.range m).foldl (dn2 l m' l' (bestF m l m' l')) f = f := heq
      rw [e] at this
      exact this
theorem own_least (S : Sys m l) (S' : Sys m' l') (h0 : mem2 (bestF m l m' l') 0 0) : Least m' l' (bestF m l m' l') l (ownF m l m' l') := by
  have hm := S.le
  have hm' := S'.le
  have hs0 : subF (addF (fun _ => 0) 0 0) (bestF m l m' l') := subF_of fun a b h => by
    rcases (addF_mem _ _ _ _ _).1 h with h1 | ⟨rfl, rfl⟩
    · unfold mem2 at h1; simp at h1
    · exact h0
  have hup : ∀ (n : Nat) (f : Nat → Nat), subF f (itr (dn3 m l m' l' (bestF m l m' l')) n f) := by
    intro n
    induction n with
    | zero => exact subF.refl
    | succ n ih => exact fun f => (dn3_sub _ f).trans (ih _)
  have hin : ∀ (n : Nat) (h f : Nat → Nat), Clo m' l' (bestF m l m' l') l h → subF f h → subF (itr (dn3 m l m' l' (bestF m l m' l')) n f) h := by
    intro n h
    induction n with
    | zero => exact fun f _ h => h
    | succ n ih => exact fun f hc hf => ih _ hc (dn3_in hc hf)
  refine ⟨?_, subF_mem (hup _ _) ((addF_mem _ _ _ _ _).2 (.inr ⟨rfl, rfl⟩)), fun h hc hh => hin _ h _ hc (subF_of fun a b hab => ?_)⟩
  · rcases own_grow S S' (m * m') _ hs0 with h | h
    · exact h
    · have h1 : sizeF (ownF m l m' l') ≤ m * m' := by
        have hsz : sizeF (allF m m') ≤ m * m' := allF_size ⟨m, by omega⟩ ⟨m', by omega⟩
        refine Nat.le_trans (size_mono ((hin _ _ _ (best_clo S S') hs0).trans (subF_of fun x y hxy => ?_))) hsz
        have hy : y < m' := by
          rcases Nat.lt_or_ge y m' with h1 | h1
          · exact h1
          · have hb : bestF m l m' l' x < 2 ^ m' := bestF_inB x
            unfold mem2 at hxy
            rw [Nat.testBit_lt_two_pow (Nat.lt_of_lt_of_le hb (Nat.pow_le_pow_right (by decide) h1))] at hxy; cases hxy
        have hx : x < m := by
          rcases Nat.lt_or_ge x m with h1 | h1
          · exact h1
          · unfold mem2 at hxy
            rw [bestF_out (l := l) (m' := m') (l' := l') hm h1] at hxy; simp at hxy
        unfold mem2 allF
        rw [if_pos hx, Nat.testBit_two_pow_sub_one]; exact decide_eq_true hy
      have h2 : 0 < sizeF (addF (fun _ => 0) 0 0) := by decide
      unfold ownF at h1
      omega
  · rcases (addF_mem _ _ _ _ _).1 hab with h1 | ⟨rfl, rfl⟩
    · unfold mem2 at h1; simp at h1
    · exact hh
end
end Go.Am

set_option maxRecDepth 100000
set_option linter.unusedVariables false
set_option linter.unusedSimpArgs false
set_option linter.unusedSectionVars false
namespace Go.Am
open Go
section
variable {m m' : Nat} {l l' : List St3}
theorem subF_lt {f : Nat → Nat} (h : subF f (bestF m l m' l')) (i : Nat) : f i < 2 ^ m' := Nat.lt_of_le_of_lt (h i).le (bestF_inB i)
end
def prf (n : Int) (l : List St3) (n' : Int) (l' : List St3) : List P2 × Int :=
  bif vSys n l && vSys n' l' then bif (bestF n.toNat l n'.toNat l' 0).testBit 0 then (prs n.toNat (ownF n.toNat l n'.toNat l'), 0) else ([], 5) else ([], 50)
theorem own_in {m m' : Nat} {l l' : List St3} (S : Sys m l) (S' : Sys m' l') (h0 : mem2 (bestF m l m' l') 0 0) : subF (ownF m l m' l') (bestF m l m' l') := (own_least S S' h0).min _ (best_clo S S') h0
end Go.Am

set_option maxRecDepth 100000
set_option linter.unusedVariables false
set_option linter.unusedSimpArgs false
set_option linter.unusedSectionVars false
namespace Go.Am
open Go
def Suc (l : List St3) (m' : Nat) (l' : List St3) (r s : Nat → Nat) (a b : Nat) : Prop := ∀ z : St3, z ∈ l → z.1 = (a : Int) → mem2 s z.2.2.toNat (nx m' l' r b z)
theorem Suc.mono {l : List St3} {m' : Nat} {l' : List St3} {r s t : Nat → Nat} {a b : Nat} (h : Suc l m' l' r s a b) (hs : subF s t) : Suc l m' l' r t a b := fun z hz hx => subF_mem hs (h z hz hx)
structure Ex (l : List St3) (m' : Nat) (l' : List St3) (r o s : Nat → Nat) : Prop where
  sub : subF o s
  clo : ∀ a b, mem2 s a b → mem2 o a b ∨ Suc l m' l' r s a b
  min : ∀ h, Clo m' l' r l h → subF o h → subF s h
  lt : ∀ i, s i < 2 ^ m'
structure Dfs (l : List St3) (m' : Nat) (l' : List St3) (r : Nat → Nat) (x y : Nat) (o s : Nat → Nat) : Prop where
  sub : subF o s
  has : mem2 s x y
  clo : ∀ a b, mem2 s a b → mem2 o a b ∨ Suc l m' l' r s a b
  min : ∀ h, Clo m' l' r l h → subF o h → mem2 h x y → subF s h
  lt : ∀ i, s i < 2 ^ m'
theorem Ex.dfs {l : List St3} {m' : Nat} {l' : List St3} {r o s t : Nat → Nat} {x y : Nat} (h : Ex l m' l' r o s) (d : Dfs l m' l' r x y s t) (hxy : ∀ k, Clo m' l' r l k → subF o k → mem2 k x y) : Ex l m' l' r o t := by
  refine ⟨h.sub.trans d.sub, fun a b hab => ?_, fun k hk hok => d.min k hk (h.min k hk hok) (hxy k hk hok), d.lt⟩
  rcases d.clo a b hab with h1 | h1
  · rcases h.clo a b h1 with h2 | h2
    · exact .inl h2
    · exact .inr (h2.mono d.sub)
  · exact .inr h1
section
variable {m m' : Nat} {l l' : List St3}
def nxl (m' : Nat) (l' : List St3) (r : Nat → Nat) (y lab to : Nat) : Nat := Lib.trailingZeros8 (r to &&& comesN m' l' (2 ^ y) (lab : Int))
theorem tz8_eq {a : Nat} (h : a < 64) : tz8 Ar.std (a : Int) = some ((Lib.trailingZeros8 a : Nat) : Int) := by
  have h1 : Ar.std.zle 0 (a : Int) = true := by rw [std_zle]; exact decide_eq_true (by omega)
  have h2 : Ar.std.zle (a : Int) 255 = true := by rw [std_zle]; exact decide_eq_true (by omega)
  unfold tz8
  rw [h1, h2, cond_true, cond_true, Int.toNat_natCast]
theorem R94L0_eq (S : Sys m l) (S' : Sys m' l') {k : Nat} (ih : ∀ (x y : Nat) (out : Nat → Nat), 36 < k + sizeF out → mem2 (bestF m l m' l') x y → (∀ i, out i < 2 ^ m') →
      ∃ s, R94R Ar.std k (x : Int) (y : Int) (FR m l (tF m l)) (FR m' l' (tF m' l')) (rU (bestF m l m' l')) (rU out) = some (rU s) ∧ Dfs l m' l' (bestF m l m' l') x y out s)
    {x y lab : Nat} (hlab : lab < 4) (hxy : mem2 (bestF m l m' l') x y) {o : Nat → Nat} (ho : mem2 o x y) (hk : 36 < k + sizeF o) {s0 : Nat → Nat} (h0 : Ex l m' l' (bestF m l m' l') o s0) :
    ∃ s, iter (R94L0 Ar.std (y : Int) (FR m l (tF m l)) (FR m' l' (tF m' l')) (rU (bestF m l m' l')) (R94R Ar.std k) (lab : Int) (eInt (cNs (bl (stepN l (2 ^ x) (lab : Int)))))) (0, rU s0) = some (rU s) ∧
      Ex l m' l' (bestF m l m' l') o s ∧ subF s0 s ∧ ∀ to ∈ bl (stepN l (2 ^ x) (lab : Int)), mem2 s to (nxl m' l' (bestF m l m' l') y lab to) := by
  have hm := S.le
  have hm' := S'.le
  have hb := bl_len (stepN l (2 ^ x) (lab : Int))
  have hy : y < m' := bl_lt (bestF_inB x) (mem_bl.2 ⟨mem_lt6 (lt2 hm' bestF_inB) hxy, hxy⟩)
  obtain ⟨s, hR, e⟩ := iter_rel (step := R94L0 Ar.std (y : Int) (FR m l (tF m l)) (FR m' l' (tF m' l')) (rU (bestF m l m' l')) (R94R Ar.std k) (lab : Int) (eInt (cNs (bl (stepN l (2 ^ x) (lab : Int)))))) (bl (stepN l (2 ^ x) (lab : Int))).length
    (fun (s : Nat → Nat) i => ((i : Int), rU s)) (fun i s => Ex l m' l' (bestF m l m' l') o s ∧ subF s0 s ∧ ∀ to ∈ (bl (stepN l (2 ^ x) (lab : Int))).take i, mem2 s to (nxl m' l' (bestF m l m' l') y lab to)) rU
    (fun i s hi hR => by
      have ha := List.getElem?_eq_getElem hi
      generalize (bl (stepN l (2 ^ x) (lab : Int)))[i] = to at ha
      obtain ⟨z, hz, z1, z2, z3⟩ := (step_mem S.ok to).1 (List.mem_of_getElem? ha)
      obtain ⟨hne, hmem, hnx⟩ := best_nx S S' hxy hz z2
      have hto : z.2.2.toNat = to := by omega
      have hnl : nx m' l' (bestF m l m' l') y z = nxl m' l' (bestF m l m' l') y lab to := by unfold nx nxl; rw [hto, z1]
      rw [hto, hnl] at hmem
      have ha6 : to < 6 := (mem_bl.1 (List.mem_of_getElem? ha)).1
      have hlt : Ar.std.zlt (i : Int) (Ar.std.len (eInt (cNs (bl (stepN l (2 ^ x) (lab : Int)))))) = true := by rw [eIc_len]; exact ltN hi
      have hgt : gt Ar.std (cI .i64) (eInt (cNs (bl (stepN l (2 ^ x) (lab : Int))))) (i : Int) = some (to : Int) := gt_enc (cNs_get ha)
      have hc : tF m' l' (24 + 6 * lab + y) = comesN m' l' (2 ^ y) (lab : Int) := tF_comes hlab hy (by omega)
      have hc64 : comesN m' l' (2 ^ y) (lab : Int) < 64 := lt64 hm' (comesN_ltB S'.sb (Nat.pow_lt_pow_right (by decide) hy) _)
      have hsz := size_mono hR.1.sub
      obtain ⟨s', e1, d⟩ := ih to (nxl m' l' (bestF m l m' l') y lab to) s (by omega) hmem hR.1.lt
      refine ⟨s', ⟨hR.1.dfs d fun k hk hok => ?_, hR.2.1.trans d.sub, fun t ht => ?_⟩, ?_⟩
      · have := hk x y z hz z2 (subF_mem hok ho)
        rw [hto, hnl] at this; exact this
      · rw [take_succ_get ha] at ht
        rcases List.mem_append.1 ht with h1 | h1
        · exact subF_mem d.sub (hR.2.2 t h1)
        · rw [List.mem_singleton] at h1; subst h1; exact d.has
      · have hlt64 : bestF m l m' l' to &&& comesN m' l' (2 ^ y) (lab : Int) < 64 := lt64 hm' (and_lt (bestF_inB _))
        unfold R94L0
        dsimp only
        rw [hlt, cond_true, hgt, bsome, ckN, bsome, ckL ha6, bsome, ix1, rU_gc _ ha6, bsome, ckN, bsome, ckL hlab, bsome, ckN, bsome, ckL (by omega : y < 6), bsome, ix3 lab y 24, FR_gc _ _ _ (by omega), bsome, hc, andS (lt2 hm' bestF_inB to) hc64, tz8_eq hlt64, bsome]
        have e1' : R94R Ar.std k (to : Int) ((Lib.trailingZeros8 (bestF m l m' l' to &&& comesN m' l' (2 ^ y) (lab : Int)) : Nat) : Int) (FR m l (tF m l)) (FR m' l' (tF m' l')) (rU (bestF m l m' l')) (rU s) = some (rU s') := e1
        rw [e1', bsome, inc (by omega : i < 100) (by decide)]) (fun s _ => by
      unfold R94L0
      dsimp only
      rw [show Ar.std.zlt ((bl (stepN l (2 ^ x) (lab : Int))).length : Int) (Ar.std.len (eInt (cNs (bl (stepN l (2 ^ x) (lab : Int)))))) = false from by rw [eIc_len]; exact geN _, cond_false]) s0 ⟨h0, subF.refl _, fun t ht => by rw [List.take_zero] at ht; cases ht⟩
  rw [List.take_length] at hR
  exact ⟨s, e, hR.1, hR.2.1, hR.2.2⟩
theorem R94R_eq (S : Sys m l) (S' : Sys m' l') : ∀ (k x y : Nat) (out : Nat → Nat), 36 < k + sizeF out → mem2 (bestF m l m' l') x y → (∀ i, out i < 2 ^ m') →
    ∃ s, R94R Ar.std k (x : Int) (y : Int) (FR m l (tF m l)) (FR m' l' (tF m' l')) (rU (bestF m l m' l')) (rU out) = some (rU s) ∧ Dfs l m' l' (bestF m l m' l') x y out s
  | 0, x, y, out, hk, _, _ => by have := sizeF_le out; omega
  | k + 1, x, y, out, hk, hxy, hout => by
    have hm := S.le
    have hm' := S'.le
    have hxm : x < m := by
      rcases Nat.lt_or_ge x m with h1 | h1
      · exact h1
      · have hh := hxy
        unfold mem2 at hh
        rw [bestF_out (l := l) (m' := m') (l' := l') hm h1] at hh; simp at hh
    have hx6 : x < 6 := by omega
    have hy : y < m' := bl_lt (bestF_inB x) (mem_bl.2 ⟨mem_lt6 (lt2 hm' bestF_inB) hxy, hxy⟩)
    have hy6 : y < 6 := by omega
    have h91 := R91_eq (lt2 hm' hout x) hy6
    show ∃ s, R94B Ar.std (R94R Ar.std k) (x : Int) (y : Int) (FR m l (tF m l)) (FR m' l' (tF m' l')) (rU (bestF m l m' l')) (rU out) = some (rU s) ∧ _
    unfold R94B
    rw [ckN, bsome, ckL hx6, bsome, ix1, rU_gc _ hx6, bsome, h91, bsome]
    cases hh : (out x).testBit y with
    | true => exact ⟨out, by rw [cond_true], subF.refl _, hh, fun a b h => .inl h, fun h _ h2 _ => h2, hout⟩
    | false =>
      rw [cond_false, bsome, bsome, bsome, nkN, bsome, bsome, bsome, rU_lget _ hx6, bsome, shlS (by omega), orS (lt2 hm' hout x) (pow6 hy6), rU_lset]
      have hadd : upd out x (out x ||| 2 ^ y) = addF out x y := rfl
      rw [hadd]
      have ho : mem2 (addF out x y) x y := (addF_mem _ _ _ _ _).2 (.inr ⟨rfl, rfl⟩)
      have hsz := size_lt (addF_sub out x y) hx6 hy6 hh ho
      have hE : Ex l m' l' (bestF m l m' l') (addF out x y) (addF out x y) := ⟨subF.refl _, fun a b h => .inl h, fun h _ h2 => h2, addF_lt hout hy⟩
      obtain ⟨s, hR, e⟩ := iter_rel (step := R94L1 Ar.std (x : Int) (y : Int) (FR m l (tF m l)) (FR m' l' (tF m' l')) (rU (bestF m l m' l')) (R94R Ar.std k)) 4
        (fun (s : Nat → Nat) i => ((i : Int), rU s)) (fun i s => Ex l m' l' (bestF m l m' l') (addF out x y) s ∧ ∀ lab, lab < i → ∀ to ∈ bl (stepN l (2 ^ x) (lab : Int)), mem2 s to (nxl m' l' (bestF m l m' l') y lab to)) rU
        (fun lab s hlab hR => by
          obtain ⟨s', e1, e2, e3, e4⟩ := R94L0_eq S S' (R94R_eq S S' k) hlab hxy ho (by omega) hR.1
          refine ⟨s', ⟨e2, fun j hj to hto => ?_⟩, ?_⟩
          · rcases Nat.lt_or_eq_of_le (Nat.le_of_lt_succ hj) with h1 | h1
            · exact subF_mem e3 (hR.2 j h1 to hto)
            · subst h1; exact e4 to hto
          · have hs : tF m l (6 * lab + x) = stepN l (2 ^ x) (lab : Int) := by
              rw [tF_step _ (by omega), show (6 * lab + x) % 6 = x from by omega, show (6 * lab + x) / 6 = lab from by omega]
            have hix2 := ix3 lab x 0
            rw [show 0 + 6 * lab + x = 6 * lab + x from by omega] at hix2
            unfold R94L1
            dsimp only
            rw [lt4 hlab, cond_true, ckN, bsome, ckL hlab, bsome, ckN, bsome, ckL hx6, bsome, hix2, FR_gc _ _ _ (by omega), bsome, hs, R76_eq _ (stepN_lt S.ok _ _), bsome, e1, bsome, inc (by omega : lab < 100) (by decide)]) (fun s _ => by
          unfold R94L1
          dsimp only
          rw [show Ar.std.zlt ((4 : Nat) : Int) 4 = false from rfl, cond_false]) (addF out x y) ⟨hE, fun lab h => by omega⟩
      have e' : iter (R94L1 Ar.std (x : Int) (y : Int) (FR m l (tF m l)) (FR m' l' (tF m' l')) (rU (bestF m l m' l')) (R94R Ar.std k)) (0, rU (addF out x y)) = some (rU s) := e
      have hsuc : Suc l m' l' (bestF m l m' l') s x y := fun z hz z1 => by
        have hok := S.ok.2 z hz
        have hl4 : z.2.1.toNat < 4 := by omega
        have e1 : ((z.2.1.toNat : Nat) : Int) = z.2.1 := by omega
        have := hR.2 z.2.1.toNat hl4 z.2.2.toNat ((step_mem S.ok _).2 ⟨z, hz, by omega, z1, by omega⟩)
        unfold nxl at this
        rw [e1] at this
        exact this
      refine ⟨s, by rw [e', bsome], (addF_sub out x y).trans hR.1.sub, subF_mem hR.1.sub ho, fun a b h => ?_, fun h h1 h2 h3 => hR.1.min h h1 (subF_of fun a b hab => ?_), hR.1.lt⟩
      · rcases hR.1.clo a b h with h1 | h1
        · rcases (addF_mem _ _ _ _ _).1 h1 with h2 | ⟨rfl, rfl⟩
          · exact .inl h2
          · exact .inr hsuc
        · exact .inr h1
      · rcases (addF_mem _ _ _ _ _).1 hab with h4 | ⟨rfl, rfl⟩
        · exact subF_mem h2 h4
        · exact h3
theorem R94_eq (S : Sys m l) (S' : Sys m' l') (h0 : mem2 (bestF m l m' l') 0 0) : R94 Ar.std 0 0 (FR m l (tF m l)) (FR m' l' (tF m' l')) (rU (bestF m l m' l')) (rU fun _ => 0) = some (rU (ownF m l m' l')) := by
  obtain ⟨s, e, d⟩ := R94R_eq S S' fuel 0 0 (fun _ => 0) (by rw [fuel_eq]; omega) h0 (fun i => Nat.two_pow_pos m')
  have z0 : ∀ a b, ¬ mem2 (fun _ => 0) a b := fun a b h => by unfold mem2 at h; simp at h
  have hL : Least m' l' (bestF m l m' l') l s := ⟨fun x y z hz hx h => by
    rcases d.clo x y h with h1 | h1
    · exact absurd h1 (z0 _ _)
    · exact h1 z hz hx, d.has, fun h hc hh => d.min h hc (subF_of fun a b hab => absurd hab (z0 _ _)) hh⟩
  rw [Least.same m' l' _ (own_least S S' h0) hL]
  exact e
theorem ownF_out (S : Sys m l) (S' : Sys m' l') (h0 : mem2 (bestF m l m' l') 0 0) {x : Nat} (hx : m ≤ x) : ownF m l m' l' x = 0 := by
  have h1 := own_in S S' h0 x
  rw [bestF_out S.le hx] at h1
  have := h1.le
  omega
end
theorem R46_eq (n n' : Int) (l l' : List St3) (hl : l.length < Lg) (hl' : l'.length < Lg) : R46 Ar.std n (eSt l) n' (eSt l') = some (ePr (prf n l n' l').1, (prf n l n' l').2) := by
  unfold R46 prf
  rw [R70_eq n n' l l' hl hl', bsome]
  cases hv : vSys n l with
  | false => rfl
  | true =>
    cases hv' : vSys n' l' with
    | false => rfl
    | true =>
      obtain ⟨m, rfl, S⟩ := Sys.of hv
      obtain ⟨m', rfl, S'⟩ := Sys.of hv'
      have e : R90 Ar.std (FR m l (tF m l)) (FR m' l' (tF m' l')) = some (rU (bestF m l m' l')) := R90_eq S S'
      have h9 : R91 Ar.std ((bestF m l m' l' 0 : Nat) : Int) 0 = some ((bestF m l m' l' 0).testBit 0) := R91_eq (i := 0) (lt2 S'.le bestF_inB 0) (by decide)
      simp only [cond_true, Int.toNat_natCast, Bool.and_self, Sum.elim_inl]
      rw [e, bsome, rU_len, bsome, rU_room, bsome, rU_spl, show Ar.std.nat 0 = 0 from rfl, rU_gc _ (by decide), bsome, h9, bsome]
      cases hb : (bestF m l m' l' 0).testBit 0 with
      | false => rfl
      | true =>
        have h86 := R86_eq (f := ownF m l m' l') (lt2 S'.le (subF_lt (own_in S S' hb)))
        have hp := prs_zero (n := m) (f := ownF m l m' l') (fun i hi => ownF_out S S' hb hi) (6 - m)
        have hm := S.le
        rw [show m + (6 - m) = 6 from by omega] at hp
        rw [cond_true, cond_true, rU_rep, R94_eq S S' hb, bsome, rU_ga, bsome, h86, bsome, hp]
theorem small_P {l : List P2} {n : Nat} (h : l.length ≤ n) (hn : n ≤ 1000) : l.length < Lg := by show l.length < 9223372036854775808; omega
end Go.Am

set_option maxRecDepth 100000
set_option linter.unusedVariables false
set_option linter.unusedSimpArgs false
set_option linter.unusedSectionVars false
namespace Go.Am
open Go
theorem mem_prs {n : Nat} {f : Nat → Nat} {p : P2} : p ∈ prs n f ↔ ∃ x y : Nat, x < n ∧ y ∈ bl (f x) ∧ p = ((x : Int), (y : Int)) := by
  unfold prs
  simp only [List.mem_flatMap, List.mem_range, List.mem_map]
  constructor
  · rintro ⟨x, hx, y, hy, rfl⟩; exact ⟨x, y, hx, hy, rfl⟩
  · rintro ⟨x, y, hx, hy, rfl⟩; exact ⟨x, hx, y, hy, rfl⟩
theorem bl_asc (s : Nat) : (bl s).Pairwise (· < ·) := List.Pairwise.filter _ List.pairwise_lt_range
theorem prs_asc (f : Nat → Nat) : ∀ n, (prs n f).Pairwise fun a b => lessP a b = true
  | 0 => List.Pairwise.nil
  | n + 1 => by
    rw [prs_succ]
    refine List.pairwise_append.2 ⟨prs_asc f n, ?_, fun p hp q hq => ?_⟩
    · rw [List.pairwise_map]
      refine (bl_asc (f n)).imp fun {a b} h => ?_
      unfold lessP
      rw [decide_eq_true (rfl : (n : Int) = (n : Int)), decide_eq_true (by omega : (a : Int) < (b : Int))]; simp
    · obtain ⟨x, y, hx, _, rfl⟩ := mem_prs.1 hp
      obtain ⟨z, _, rfl⟩ := List.mem_map.1 hq
      unfold lessP
      rw [decide_eq_true (by omega : (x : Int) < (n : Int))]; rfl
theorem isRel_of {m n : Nat} {r : List P2} (hb : ∀ p ∈ r, (0 ≤ p.1 ∧ p.1.toNat < m) ∧ (0 ≤ p.2 ∧ p.2.toNat < n)) (hp : r.Pairwise fun a b => lessP a b = true) : isRel m n r = true := by
  unfold isRel
  rw [Bool.not_eq_true', Bool.eq_false_iff]
  intro h
  obtain ⟨i, hi, hbad⟩ := List.any_eq_true.1 h
  have hi := List.mem_range.1 hi
  have hg := List.getElem?_eq_getElem hi
  rw [badR_get hg] at hbad
  have hbb := hb _ (List.getElem_mem hi)
  have b1 : btw 0 r[i].1 ((m : Int) - 1) = true := by unfold btw; rw [decide_eq_true hbb.1.1, decide_eq_true (by omega)]; rfl
  have b2 : btw 0 r[i].2 ((n : Int) - 1) = true := by unfold btw; rw [decide_eq_true hbb.2.1, decide_eq_true (by omega)]; rfl
  rw [b1, b2] at hbad
  rcases Nat.eq_zero_or_pos i with h0 | h0
  · subst h0; simp at hbad
  · have hg' := List.getElem?_eq_getElem (l := r) (i := i - 1) (by omega)
    have hl := List.pairwise_iff_getElem.1 hp (i - 1) i (by omega) hi (by omega)
    rw [hg', Option.map_some, Option.getD_some, hl] at hbad
    simp at hbad
theorem prs_rel {m n : Nat} {f : Nat → Nat} (h : ∀ i, f i < 2 ^ n) : isRel m n (prs m f) = true := by
  refine isRel_of (fun p hp => ?_) (prs_asc f m)
  obtain ⟨x, y, hx, hy, rfl⟩ := mem_prs.1 hp
  have := bl_lt (h x) hy
  simp only; omega
theorem relF_prs {m : Nat} {f : Nat → Nat} (h : ∀ i, f i < 64) (h0 : ∀ i, m ≤ i → f i = 0) : relF (prs m f) = f := by
  funext x
  refine Nat.eq_of_testBit_eq fun y => ?_
  rw [relF_test, Bool.eq_iff_iff]
  simp only [List.any_eq_true, Bool.and_eq_true, decide_eq_true_eq]
  constructor
  · rintro ⟨p, hp, h1, h2⟩
    obtain ⟨a, b, ha, hb, rfl⟩ := mem_prs.1 hp
    have e1 : a = x := by simpa using h1
    have e2 : b = y := by simpa using h2
    subst e1; subst e2
    exact (mem_bl.1 hb).2
  · intro hy
    have hx : x < m := by
      rcases Nat.lt_or_ge x m with h1 | h1
      · exact h1
      · rw [h0 x h1] at hy; simp at hy
    exact ⟨((x : Int), (y : Int)), mem_prs.2 ⟨x, y, hx, mem_bl.2 ⟨mem_lt6 h hy, hy⟩, rfl⟩, by simp, by simp⟩
abbrev cSy : Cod (Int × List D) := cG (lc (cI .i64) (l1 (cL 3)))
def eSy (s : Int × List St3) : D := .agg [.int .i64 s.1, .list 3 (eSt s.2)]
def okSy (s : Int × List St3) : Bool := !decide ((100 : Int) < s.2.length) && vSys s.1 s.2
theorem R42_eq (ss : List (Int × List St3)) (hs : ss.length < Lg) (hl : ∀ s ∈ ss, s.2.length < Lg) : R42 Ar.std (ss.map eSy) = some (ss.all okSy) := by
  have key := iter_any (step := R42L0 Ar.std (ss.map eSy)) ss (fun s => !okSy s) (.inr ()) (.inl ()) (fun i s hi hlt => by
    have hget : gt Ar.std cSy (ss.map eSy) (i : Int) = some (s.1, eSt s.2) := by
      rw [gt_at hi]; rfl
    have hz : Ar.std.zlt (i : Int) (Ar.std.len (ss.map eSy)) = true := by rw [std_len, List.length_map]; exact ltN hlt
    unfold R42L0
    rw [hz, cond_true, hget, bsome]
    dsimp only
    rw [R16_eq, bsome, R34_eq s.1 s.2 (hl s (List.mem_of_getElem? hi)), bsome, inc hlt hs]
    unfold okSy
    cases decide ((100 : Int) < s.2.length) <;> cases vSys s.1 s.2 <;> rfl) (by
    unfold R42L0
    rw [std_len, List.length_map, geN, cond_false])
  unfold R42
  rw [key, bsome, any_notB]
  cases ss.all okSy <;> rfl
theorem stepN_has {l : List St3} (hl : SOk l) {s : Nat} {z : St3} (hz : z ∈ l) (hs : s.testBit z.1.toNat = true) : (stepN l s z.2.1).testBit z.2.2.toNat = true := by
  rw [stepN_test, List.any_eq_true]
  refine ⟨z, hz, ?_⟩
  unfold goes
  rw [decide_eq_true rfl, hs, decide_eq_true rfl]; rfl
theorem quiet_sub (m : Nat) (l : List St3) (s : Nat) : Wi s (quietN m l s) := by rw [quietN_nat]; exact hids_sub l m s
theorem comes_has {m : Nat} {l : List St3} (S : Sys m l) {s : Nat} {z : St3} (hz : z ∈ l) (hs : s.testBit z.1.toNat = true) : (comesN m l s z.2.1).testBit z.2.2.toNat = true := by
  unfold comesN
  by_cases h0 : z.2.1 = 0
  · rw [decide_eq_true h0, cond_true, quietN_nat]
    obtain ⟨k, hk⟩ : ∃ k, m = k + 1 := ⟨m - 1, by have := S.pos; omega⟩
    rw [hk]
    refine (hids_sub l k (hid l s)).test ?_
    unfold hid
    rw [Nat.testBit_or, ← h0, stepN_has S.ok hz hs, Bool.or_true]
  · rw [decide_eq_false h0, cond_false]
    exact (quiet_sub m l _).test (stepN_has S.ok hz ((quiet_sub m l s).test hs))
theorem and_ne {a b z : Nat} (ha : a.testBit z = true) (hb : b.testBit z = true) : a &&& b ≠ 0 := by
  intro h
  have : (a &&& b).testBit z = true := by rw [Nat.testBit_and, ha, hb]; rfl
  rw [h] at this; simp at this
def idF (m x : Nat) : Nat := if x < m then 2 ^ x else 0
theorem idF_in {m x : Nat} (h : x < m) : idF m x = 2 ^ x := if_pos h
theorem idF_out {m x : Nat} (h : ¬ x < m) : idF m x = 0 := if_neg h
theorem isPr_best {m m' : Nat} {l l' : List St3} (S : Sys m l) (S' : Sys m' l') {f : Nat → Nat} (hB : ∀ i, f i < 2 ^ m') (h0 : ∀ i, m ≤ i → f i = 0) (hp : isPf (keepN l m' l') m f) : isRel m m' (prs m f) = true ∧ (prs m f).all (keepP l m' l' (relF (prs m f))) = true := by
  refine ⟨prs_rel hB, ?_⟩
  rw [relF_prs (lt2 S'.le hB) h0, List.all_eq_true]
  intro p hpp
  obtain ⟨x, y, hx, hy, rfl⟩ := mem_prs.1 hpp
  unfold keepP
  rw [Int.toNat_natCast, Int.toNat_natCast]
  exact hp x hx y hy
theorem own_pf {m m' : Nat} {l l' : List St3} (S : Sys m l) (S' : Sys m' l') (h0 : mem2 (bestF m l m' l') 0 0) : isPf (keepN l m' l') m (ownF m l m' l') := fun x hx y hy => by
  have hL := own_least S S' h0
  rw [keep_iff]
  intro z hz hz1
  have hown := (mem_bl.1 hy).2
  have hb : mem2 (bestF m l m' l') x y := subF_mem (own_in S S' h0) hown
  obtain ⟨hne, _, _⟩ := best_nx S S' hb hz hz1
  have hlt : bestF m l m' l' z.2.2.toNat &&& comesN m' l' (2 ^ y) z.2.1 < 64 := lt64 S'.le (and_lt (bestF_inB _))
  have ht := (tz_mem hlt hne).1
  rw [Nat.testBit_and, Bool.and_eq_true] at ht
  exact and_ne (hL.clo x y z hz hz1 hown) ht.2
end Go.Am

set_option maxRecDepth 100000
set_option linter.unusedVariables false
set_option linter.unusedSimpArgs false
set_option linter.unusedSectionVars false
namespace Go.Am
open Go
theorem and2 {x y : Bool} (h : (x && y) = true) : x = true ∧ y = true := by cases x <;> cases y <;> first | exact ⟨rfl, rfl⟩ | cases h
theorem okSy_v {s : Int × List St3} (h : okSy s = true) : vSys s.1 s.2 = true := (and2 h).2
theorem isPr_ok {n n' : Int} {l l' : List St3} {m m' : Nat} (S : Sys m l) (S' : Sys m' l') (hn : n = m) (hn' : n' = m') (hv : vSys n l = true) (hv' : vSys n' l' = true) {f : Nat → Nat} (hB : ∀ i, f i < 2 ^ m') (h0 : ∀ i, m ≤ i → f i = 0) (hp : isPf (keepN l m' l') m f) :
    isPr n l n' l' (prs m f) = (true, 0) := by
  subst hn; subst hn'
  have h := isPr_best S S' hB h0 hp
  unfold isPr
  rw [hv, hv', Bool.and_self, cond_true, Int.toNat_natCast, Int.toNat_natCast, h.1, cond_true, h.2]
end Go.Am

set_option maxRecDepth 100000
set_option linter.unusedVariables false
set_option linter.unusedSimpArgs false
set_option linter.unusedSectionVars false
namespace Go.Am
open Go
theorem comesN_mono {n : Int} {l : List St3} {a b : Nat} (lab : Int) (h : Wi a b) : Wi (comesN n l a lab) (comesN n l b lab) := by
  unfold Wi at h ⊢
  rw [← comesN_or, h]
theorem quietN_mono {n : Int} {l : List St3} {a b : Nat} (h : Wi a b) : Wi (quietN n l a) (quietN n l b) := by
  unfold Wi at h ⊢
  rw [← quietN_or, h]
theorem quiet_quiet {m : Nat} {l : List St3} (S : Sys m l) {s : Nat} (hs : s < 2 ^ m) : quietN m l (quietN m l s) = quietN m l s := by
  rw [quietN_nat, quietN_nat]
  exact hids_of_fix (hids_fix S.sb hs) m
theorem bit_in {s y : Nat} (h : s.testBit y = true) : Wi (2 ^ y) s := by
  refine Nat.eq_of_testBit_eq fun z => ?_
  rw [Nat.testBit_or, Nat.testBit_two_pow]
  by_cases hz : y = z
  · subst hz; rw [h]; simp
  · rw [decide_eq_false hz]; rfl
def Cov (g : Nat → Nat) (s t : Nat) : Prop := ∀ y, s.testBit y = true → ∃ w, t.testBit w = true ∧ mem2 g y w
theorem Cov.mono {g : Nat → Nat} {s t u : Nat} (h : Cov g s t) (hu : Wi t u) : Cov g s u := fun y hy => by
  obtain ⟨w, h1, h2⟩ := h y hy
  exact ⟨w, hu.test h1, h2⟩
theorem Cov.or {g : Nat → Nat} {a b t : Nat} (h : Cov g a t) (h' : Cov g b t) : Cov g (a ||| b) t := fun y hy => by
  rw [Nat.testBit_or, Bool.or_eq_true] at hy
  rcases hy with h1 | h1
  · exact h y h1
  · exact h' y h1
section
variable {m m' : Nat} {l l' : List St3} (S : Sys m l) (S' : Sys m' l') {g : Nat → Nat} (hg : ∀ x y, mem2 g x y → keepN l m' l' g x y = true)
include S S' hg
theorem cov_step {s t : Nat} (h : Cov g s t) (lab : Int) : Cov g (stepN l s lab) (comesN m' l' t lab) := fun y hy => by
  rw [stepN_test, List.any_eq_true] at hy
  obtain ⟨z, hz, h1⟩ := hy
  simp only [goes, Bool.and_eq_true, decide_eq_true_eq] at h1
  obtain ⟨⟨h1, h2⟩, h3⟩ := h1
  have hok := S.ok.2 z hz
  obtain ⟨w, hw1, hw2⟩ := h _ h2
  have hk := keep_ne (hg z.1.toNat w hw2) hz (by omega : z.1 = ((z.1.toNat : Nat) : Int))
  obtain ⟨b, hb⟩ := Nat.exists_testBit_of_ne_zero hk
  rw [Nat.testBit_and, Bool.and_eq_true, h1] at hb
  refine ⟨b, (comesN_mono lab (bit_in hw1)).test hb.2, ?_⟩
  rw [← h3]; exact hb.1
theorem cov_hids {t : Nat} (ht : quietN m' l' t = t) : ∀ (k s : Nat), Cov g s t → Cov g (hids l k s) t
  | 0, s, h => h
  | k + 1, s, h => by
    refine cov_hids ht k (hid l s) ?_
    refine h.or ?_
    have := cov_step S S' hg h 0
    unfold comesN at this
    rw [decide_eq_true rfl, cond_true, ht] at this
    exact this
theorem cov_quiet {s t : Nat} (ht : t < 2 ^ m') (h : Cov g s t) : Cov g (quietN m l s) (quietN m' l' t) := by
  rw [quietN_nat m l]
  exact cov_hids S S' hg (quiet_quiet S' ht) m s (h.mono (quiet_sub m' l' t))
theorem cov_comes {s t : Nat} (ht : t < 2 ^ m') (h : Cov g s t) (lab : Int) : Cov g (comesN m l s lab) (comesN m' l' t lab) := by
  have h1 := cov_quiet S S' hg ht h
  unfold comesN
  by_cases h0 : lab = 0
  · rw [decide_eq_true h0, cond_true, cond_true]; exact h1
  · rw [decide_eq_false h0, cond_false, cond_false]
    have hq : quietN m' l' t < 2 ^ m' := quietN_ltB S'.sb ht
    have h2 := cov_step S S' hg h1 lab
    unfold comesN at h2
    rw [decide_eq_false h0, cond_false, quiet_quiet S' ht] at h2
    have h3 := cov_quiet S S' hg (quietN_ltB S'.sb (stepN_ltB S'.sb _ _)) h2
    rw [quiet_quiet S' (stepN_ltB S'.sb _ _)] at h3
    exact h3
theorem cov_behind (h0 : mem2 g 0 0) : ∀ (tr : List Int), Cov g (behindN m l tr) (behindN m' l' tr) := fun tr => by
  induction tr using snoc_indR with
  | h0 =>
    have : Cov g 1 1 := fun y hy => by
      have : y = 0 := by
        have h1 := Nat.testBit_two_pow (n := 0) (m := y)
        rw [show (2 : Nat) ^ 0 = 1 from rfl, hy] at h1
        exact (of_decide_eq_true h1.symm).symm
      subst this
      exact ⟨0, rfl, h0⟩
    exact cov_quiet S S' hg (Nat.one_lt_two_pow (by have := S'.pos; omega)) this
  | h1 tr lab ih =>
    rw [behindN_snoc, behindN_snoc]
    exact cov_comes S S' hg (behindN_ltB S' tr) ih lab
theorem cov_trace (h0 : mem2 g 0 0) (tr : List Int) (h : behindN m l tr ≠ 0) : behindN m' l' tr ≠ 0 := by
  obtain ⟨y, hy⟩ := Nat.exists_testBit_of_ne_zero h
  obtain ⟨w, hw, _⟩ := cov_behind S S' hg h0 tr y hy
  intro h2
  rw [h2] at hw; simp at hw
end
theorem best_all {m m' : Nat} {l l' : List St3} (S : Sys m l) (S' : Sys m' l') : ∀ x y, mem2 (bestF m l m' l') x y → keepN l m' l' (bestF m l m' l') x y = true := fun x y h => by
  have hx : x < m := by
    rcases Nat.lt_or_ge x m with h1 | h1
    · exact h1
    · unfold mem2 at h
      rw [bestF_out (l := l) (m' := m') (l' := l') S.le h1] at h; simp at h
  exact bestF_pf S S' x hx y (mem_bl.2 ⟨mem_lt6 (lt2 S'.le bestF_inB) h, h⟩)
theorem refines_traces {m m' : Nat} {l l' : List St3} (S : Sys m l) (S' : Sys m' l') (h : mem2 (bestF m l m' l') 0 0) (tr : List Int) : behindN m l tr ≠ 0 → behindN m' l' tr ≠ 0 := cov_trace S S' (best_all S S') h tr
theorem comp_mem {f g : Nat → Nat} (hf : ∀ i, f i < 64) {x w : Nat} : mem2 (compF f g) x w ↔ ∃ y, mem2 f x y ∧ mem2 g y w := by
  unfold mem2
  rw [compF_test, List.any_eq_true]
  constructor
  · rintro ⟨y, _, h⟩
    rw [Bool.and_eq_true] at h
    exact ⟨y, h.1, h.2⟩
  · rintro ⟨y, h1, h2⟩
    exact ⟨y, List.mem_range.2 (mem_lt6 hf h1), by rw [Bool.and_eq_true]; exact ⟨h1, h2⟩⟩
theorem comp_pf {m m' m2 : Nat} {l l' l2 : List St3} (S' : Sys m' l') (S2 : Sys m2 l2) {f g : Nat → Nat} (hf6 : ∀ i, f i < 64) (hgB : ∀ i, g i < 2 ^ m2)
    (hf : ∀ x y, mem2 f x y → keepN l m' l' f x y = true) (hg : ∀ x y, mem2 g x y → keepN l' m2 l2 g x y = true) : ∀ x y, mem2 (compF f g) x y → keepN l m2 l2 (compF f g) x y = true := fun x w h => by
  obtain ⟨y, h1, h2⟩ := (comp_mem hf6).1 h
  rw [keep_iff]
  intro z hz hz1
  have hk := keep_ne (hf x y h1) hz hz1
  obtain ⟨y', hy'⟩ := Nat.exists_testBit_of_ne_zero hk
  rw [Nat.testBit_and, Bool.and_eq_true] at hy'
  have hw : w < m2 := by
    rcases Nat.lt_or_ge w m2 with h3 | h3
    · exact h3
    · have hb := hgB y
      unfold mem2 at h2
      rw [Nat.testBit_lt_two_pow (Nat.lt_of_lt_of_le hb (Nat.pow_le_pow_right (by decide) h3))] at h2; cases h2
  have hc : Cov g (2 ^ y) (2 ^ w) := fun a ha => by
    rw [Nat.testBit_two_pow] at ha
    have := of_decide_eq_true ha
    subst this
    exact ⟨w, by rw [Nat.testBit_two_pow]; exact decide_eq_true rfl, h2⟩
  obtain ⟨w', hw1, hw2⟩ := cov_comes S' S2 hg (Nat.pow_lt_pow_right (by decide) hw) hc z.2.1 y' hy'.2
  exact and_ne ((comp_mem hf6).2 ⟨y', hy'.1, hw2⟩) hw1
end Go.Am

set_option maxRecDepth 100000
set_option linter.unusedVariables false
set_option linter.unusedSimpArgs false
set_option linter.unusedSectionVars false
namespace Go.Am
open Go
theorem prs_rel6 {m : Nat} {f : Nat → Nat} (hm : m ≤ 6) (h : ∀ i, f i < 64) : isRel 6 6 (prs m f) = true := by
  refine isRel_of (fun p hp => ?_) (prs_asc f m)
  obtain ⟨x, y, hx, hy, rfl⟩ := mem_prs.1 hp
  have := (mem_bl.1 hy).1
  simp only; omega
theorem bst_of {n n' : Int} {l l' : List St3} {m m' : Nat} (hn : n = m) (hn' : n' = m') (hv : vSys n l = true) (hv' : vSys n' l' = true) : bst n l n' l' = (prs m (bestF m l m' l'), 0) := by
  subst hn; subst hn'
  unfold bst
  rw [hv, hv', Bool.and_self, cond_true, Int.toNat_natCast, Int.toNat_natCast]
theorem rfn_of {n n' : Int} {l l' : List St3} {m m' : Nat} (hn : n = m) (hn' : n' = m') (hv : vSys n l = true) (hv' : vSys n' l' = true) : rfn n l n' l' = ((bestF m l m' l' 0).testBit 0, 0) := by
  subst hn; subst hn'
  unfold rfn
  rw [hv, hv', Bool.and_self, cond_true, Int.toNat_natCast, Int.toNat_natCast]
theorem prs_Lg {m : Nat} (hm : m ≤ 6) (f : Nat → Nat) : (prs m f).length < Lg := small_P (n := 36) (by have := prs_len m f; omega) (by decide)
theorem comp_out {m : Nat} {f g : Nat → Nat} (h : ∀ i, m ≤ i → f i = 0) (i : Nat) (hi : m ≤ i) : compF f g i = 0 := by
  unfold compF
  rw [h i hi, bl_zero]; rfl
theorem comp_ltB {m : Nat} {f g : Nat → Nat} (h : ∀ i, g i < 2 ^ m) (i : Nat) : compF f g i < 2 ^ m := orAll_lt fun j _ => h j
theorem sub_all {m m' : Nat} {f : Nat → Nat} (h : ∀ i, m ≤ i → f i = 0) (hB : ∀ i, f i < 2 ^ m') : subF f (allF m m') := subF_of fun x y hxy => by
  have hx : x < m := by
    rcases Nat.lt_or_ge x m with h1 | h1
    · exact h1
    · unfold mem2 at hxy
      rw [h x h1] at hxy; simp at hxy
  have hy : y < m' := by
    rcases Nat.lt_or_ge y m' with h1 | h1
    · exact h1
    · unfold mem2 at hxy
      rw [Nat.testBit_lt_two_pow (Nat.lt_of_lt_of_le (hB x) (Nat.pow_le_pow_right (by decide) h1))] at hxy; cases hxy
  unfold mem2 allF
  rw [if_pos hx, Nat.testBit_two_pow_sub_one]; exact decide_eq_true hy
theorem ref_of {m m' : Nat} {l l' : List St3} (S : Sys m l) (S' : Sys m' l') {f : Nat → Nat} (h : ∀ i, m ≤ i → f i = 0) (hB : ∀ i, f i < 2 ^ m') (hp : ∀ x y, mem2 f x y → keepN l m' l' f x y = true) (h0 : mem2 f 0 0) : mem2 (bestF m l m' l') 0 0 :=
  subF_mem (bestF_max S S' (fun x _ y hy => hp x y (mem_bl.1 hy).2) (sub_all h hB)) h0
end Go.Am

set_option maxRecDepth 100000
set_option linter.unusedVariables false
set_option linter.unusedSimpArgs false
set_option linter.unusedSectionVars false
namespace Go.Am
open Go
section
variable {m m' : Nat} {l l' : List St3} (S : Sys m l) (S' : Sys m' l')
end
theorem plainD_iff {l : List St3} (h : plainD l = true) : (∀ z ∈ l, z.2.1 ≠ 0) ∧ ∀ y ∈ l, ∀ z ∈ l, y.1 = z.1 → y.2.1 = z.2.1 → y = z := by
  have hb : ∀ i, i < l.length → badP l i = false := fun i hi => by
    unfold plainD at h
    rw [Bool.not_eq_true', Bool.eq_false_iff] at h
    rw [Bool.eq_false_iff]
    exact fun hb => h (List.any_eq_true.2 ⟨i, List.mem_range.2 hi, hb⟩)
  have key : ∀ i j, (hij : i < j) → (hj : j < l.length) → ¬ (l[j].1 = (l[i]'(by omega)).1 ∧ l[j].2.1 = (l[i]'(by omega)).2.1) := fun i j hij hj hh => by
    have := hb j hj
    rw [badP_get (List.getElem?_eq_getElem hj), Bool.or_eq_false_iff] at this
    have h2 := this.2
    rw [Bool.eq_false_iff] at h2
    refine h2 (List.any_eq_true.2 ⟨l[i]'(by omega), List.mem_take_iff_getElem.2 ⟨i, by omega, rfl⟩, ?_⟩)
    rw [decide_eq_true hh.1, decide_eq_true hh.2]; rfl
  constructor
  · intro z hz
    obtain ⟨i, hi, rfl⟩ := List.getElem_of_mem hz
    have := hb i hi
    rw [badP_get (List.getElem?_eq_getElem hi), Bool.or_eq_false_iff] at this
    exact of_decide_eq_false this.1
  · intro y hy z hz h1 h2
    obtain ⟨i, hi, rfl⟩ := List.getElem_of_mem hy
    obtain ⟨j, hj, rfl⟩ := List.getElem_of_mem hz
    rcases Nat.lt_trichotomy i j with h3 | h3 | h3
    · exact absurd ⟨h1.symm, h2.symm⟩ (key i j h3 hj)
    · subst h3; rfl
    · exact absurd ⟨h1, h2⟩ (key j i h3 hi)
def Single (s : Nat) : Prop := ∀ j k, s.testBit j = true → s.testBit k = true → j = k
section
variable {m : Nat} {l : List St3} (S : Sys m l) (hp : plainD l = true)
include hp
theorem plain_hid (s : Nat) : hid l s = s := by
  unfold hid
  have : stepN l s 0 = 0 := by
    refine Nat.eq_of_testBit_eq fun j => ?_
    rw [stepN_test, Nat.zero_testBit, Bool.eq_false_iff]
    intro h
    obtain ⟨z, hz, h⟩ := List.any_eq_true.1 h
    simp only [goes, Bool.and_eq_true, decide_eq_true_eq] at h
    exact (plainD_iff hp).1 z hz h.1.1
  rw [this, Nat.or_zero]
theorem plain_quiet (s : Nat) : quietN m l s = s := by rw [quietN_nat]; exact hids_of_fix (plain_hid hp s) m
include S in
theorem plain_step {s : Nat} (hs : Single s) (lab : Int) : Single (stepN l s lab) := fun j k hj hk => by
  rw [stepN_test, List.any_eq_true] at hj hk
  obtain ⟨y, hy, h1⟩ := hj
  obtain ⟨z, hz, h2⟩ := hk
  simp only [goes, Bool.and_eq_true, decide_eq_true_eq] at h1 h2
  have h3 := hs _ _ h1.1.2 h2.1.2
  have o1 := S.ok.2 y hy
  have o2 := S.ok.2 z hz
  have : y = z := (plainD_iff hp).2 y hy z hz (by omega) (by rw [h1.1.1, h2.1.1])
  rw [← h1.2, ← h2.2, this]
include S in
theorem plain_comes {s : Nat} (hs : Single s) (lab : Int) : Single (comesN m l s lab) := by
  unfold comesN
  by_cases h0 : lab = 0
  · rw [decide_eq_true h0, cond_true, plain_quiet hp]; exact hs
  · rw [decide_eq_false h0, cond_false, plain_quiet hp, plain_quiet hp]; exact plain_step S hp hs lab
include S in
theorem plain_behind (w : List Int) : Single (behindN m l w) := by
  induction w using snoc_indR with
  | h0 =>
    show Single (quietN m l 1)
    rw [plain_quiet hp]
    intro j k hj hk
    have a : ∀ j, (1 : Nat).testBit j = true → j = 0 := fun j hj => by
      have h1 := Nat.testBit_two_pow (n := 0) (m := j)
      rw [show (2 : Nat) ^ 0 = 1 from rfl, hj] at h1
      exact (of_decide_eq_true h1.symm).symm
    rw [a j hj, a k hk]
  | h1 w a ih => rw [behindN_snoc]; exact plain_comes S hp ih a
end
open Classical in
noncomputable def toSet (n : Nat) (P : Nat → Prop) : Nat := orAll (fun y => if P y then 2 ^ y else 0) (List.range n)
theorem toSet_test (n : Nat) (P : Nat → Prop) (y : Nat) : (toSet n P).testBit y = true ↔ y < n ∧ P y := by
  unfold toSet
  rw [orAll_test, List.any_eq_true]
  constructor
  · rintro ⟨z, hz, h⟩
    split at h
    · rename_i hP
      rw [Nat.testBit_two_pow] at h
      have := of_decide_eq_true h
      subst this
      exact ⟨List.mem_range.1 hz, hP⟩
    · simp at h
  · rintro ⟨h1, h2⟩
    refine ⟨y, List.mem_range.2 h1, ?_⟩
    rw [if_pos h2, Nat.testBit_two_pow]; exact decide_eq_true rfl
theorem toSet_lt (n : Nat) (P : Nat → Prop) : toSet n P < 2 ^ n := by
  unfold toSet
  refine orAll_lt fun y hy => ?_
  split
  · exact Nat.pow_lt_pow_right (by decide) (List.mem_range.1 hy)
  · exact Nat.two_pow_pos n
theorem plain_refines {m m' : Nat} {l l' : List St3} (S : Sys m l) (S' : Sys m' l') (hp : plainD l' = true) (h : ∀ w, ¬ Sep (comesN m l) (comesN m' l') (q0 m l m' l') w) : mem2 (bestF m l m' l') 0 0 := by
  have hm := S.le
  have hm' := S'.le
  let p : Nat → Nat := fun x => toSet m' fun y => ∃ w, Lab w ∧ (behindN m l w).testBit x = true ∧ (behindN m' l' w).testBit y = true
  have hmem : ∀ x y, mem2 p x y ↔ y < m' ∧ ∃ w, Lab w ∧ (behindN m l w).testBit x = true ∧ (behindN m' l' w).testBit y = true := fun x y => toSet_test m' _ y
  refine ref_of S S' (f := p) (fun i hi => ?_) (fun i => toSet_lt m' _) (fun x y hxy => ?_) ((hmem 0 0).2 ⟨by have := S'.pos; omega, [], (fun a ha => by cases ha), (quiet_sub m l 1).test (j := 0) (by decide), (quiet_sub m' l' 1).test (j := 0) (by decide)⟩)
  · refine Nat.eq_of_testBit_eq fun y => ?_
    rw [Nat.zero_testBit, Bool.eq_false_iff]
    intro hy
    obtain ⟨_, w, _, hx, _⟩ := (hmem i y).1 hy
    rw [Nat.testBit_lt_two_pow (Nat.lt_of_lt_of_le (behindN_ltB S w) (Nat.pow_le_pow_right (by decide) hi))] at hx; cases hx
  · obtain ⟨hy, w, hw, hx1, hy1⟩ := (hmem x y).1 hxy
    rw [keep_iff]
    intro z hz hz1
    have hok := S.ok.2 z hz
    have hzx : (behindN m l w).testBit z.1.toNat = true := by rw [hz1, Int.toNat_natCast]; exact hx1
    have hto := comes_has S hz hzx
    by_cases h0 : z.2.1 = 0
    · 
      rw [h0] at hto ⊢
      have hq : comesN m l (behindN m l w) 0 = behindN m l w := by
        have e0 : comesN (m : Int) l (behindN m l w) 0 = quietN m l (behindN m l w) := rfl
        rw [e0]
        rcases List.eq_nil_or_concat w with rfl | ⟨u, a, rfl⟩
        · exact quiet_quiet S (Nat.one_lt_two_pow (by have := S.pos; omega))
        · rw [List.concat_eq_append, behindN_snoc]
          unfold comesN
          cases decide (a = 0) with
          | true => exact quiet_quiet S (behindN_ltB S u)
          | false => exact quiet_quiet S (stepN_ltB S.sb _ _)
      rw [hq] at hto
      have hyy : (comesN m' l' (2 ^ y) 0).testBit y = true := (quiet_sub m' l' (2 ^ y)).test (by rw [Nat.testBit_two_pow]; exact decide_eq_true rfl)
      exact and_ne ((hmem _ _).2 ⟨hy, w, hw, hto, hy1⟩) hyy
    · have hlab : Lab (w ++ [z.2.1]) := Lab.snoc.2 ⟨hw, by omega, by omega⟩
      have hne : behindN m l (w ++ [z.2.1]) ≠ 0 := by
        intro h1
        rw [behindN_snoc] at h1
        rw [h1] at hto; simp at hto
      have hne' : behindN m' l' (w ++ [z.2.1]) ≠ 0 := fun h1 => h _ ⟨hlab, hne, h1⟩
      obtain ⟨y', hy'⟩ := Nat.exists_testBit_of_ne_zero hne'
      have hs : behindN m' l' w = 2 ^ y := by
        refine Nat.eq_of_testBit_eq fun k => ?_
        rw [Nat.testBit_two_pow]
        by_cases hk : y = k
        · subst hk; rw [hy1]; exact (decide_eq_true rfl).symm
        · rw [decide_eq_false hk, Bool.eq_false_iff]
          exact fun h2 => hk (plain_behind S' hp w y k hy1 h2)
      have hy2 : y' < m' := by
        rcases Nat.lt_or_ge y' m' with h1 | h1
        · exact h1
        · rw [Nat.testBit_lt_two_pow (Nat.lt_of_lt_of_le (behindN_ltB S' _) (Nat.pow_le_pow_right (by decide) h1))] at hy'; cases hy'
      have hy3 := hy'
      rw [behindN_snoc, hs] at hy3
      rw [← behindN_snoc] at hto
      exact and_ne ((hmem _ _).2 ⟨hy2, _, hlab, hto, hy'⟩) hy3
end Go.Am

set_option maxRecDepth 100000
set_option linter.unusedVariables false
set_option linter.unusedSimpArgs false
set_option linter.unusedSectionVars false
namespace Go.Am
open Go
theorem shw_spec {m m' : Nat} {l l' : List St3} (S : Sys m l) (S' : Sys m' l') (hv : vSys (m : Int) l = true) (hv' : vSys (m' : Int) l' = true) :
    (∃ t, shw m l m' l' = (t, 0) ∧ First (comesN m l) (comesN m' l') (q0 m l m' l') t) ∨ (shw m l m' l' = ([], 5) ∧ ∀ w, ¬ Sep (comesN m l) (comesN m' l') (q0 m l m' l') w) := by
  have hq := shw_min S S'
  unfold shw
  rw [hv, hv', cond_true, cond_true]
  generalize look (comesN m l) (comesN m' l') 9000 [(quietN m l 1, quietN m' l' 1, [])] [(quietN m l 1, quietN m' l' 1)] = o at hq
  cases o with
  | none => exact .inr ⟨rfl, hq⟩
  | some t => exact .inl ⟨t, rfl, hq⟩
end Go.Am

set_option maxRecDepth 100000
set_option linter.unusedVariables false
set_option linter.unusedSimpArgs false
set_option linter.unusedSectionVars false
namespace Go.Am
open Go
theorem any_idx {n : Nat} {p : Nat → Bool} (h : ∀ i, i < n → p i = false) : (List.range n).any p = false := by
  rw [Bool.eq_false_iff]
  intro h2
  obtain ⟨i, hi, hb⟩ := List.any_eq_true.1 h2
  rw [h i (List.mem_range.1 hi)] at hb; cases hb
theorem goodSys_of {m : Int} {l : List St3} (h : ∀ x ∈ l, stOk m x = true) (hn : l.Nodup) : goodSys m l = true := by
  unfold goodSys
  rw [any_idx fun i hi => ?_]; rfl
  rw [badSt_get (List.getElem?_eq_getElem hi), h _ (List.getElem_mem hi), Bool.not_true, Bool.false_or, Bool.eq_false_iff]
  intro hc
  rw [List.contains_iff_mem] at hc
  obtain ⟨j, hj, e⟩ := List.getElem_of_mem hc
  rw [List.length_take] at hj
  rw [List.getElem_take] at e
  have := List.pairwise_iff_getElem.1 hn j i (by omega) hi (by omega)
  exact this e
theorem plainD_of {l : List St3} (h0 : ∀ z ∈ l, z.2.1 ≠ 0) (hp : l.Pairwise fun y z => ¬ (y.1 = z.1 ∧ y.2.1 = z.2.1)) : plainD l = true := by
  unfold plainD
  rw [any_idx fun i hi => ?_]; rfl
  rw [badP_get (List.getElem?_eq_getElem hi), decide_eq_false (h0 _ (List.getElem_mem hi)), Bool.false_or, Bool.eq_false_iff]
  intro hc
  obtain ⟨y, hy, hb⟩ := List.any_eq_true.1 hc
  obtain ⟨j, hj, rfl⟩ := List.getElem_of_mem hy
  rw [List.length_take] at hj
  rw [List.getElem_take] at hb
  simp only [Bool.and_eq_true, decide_eq_true_eq] at hb
  have := List.pairwise_iff_getElem.1 hp j i (by omega) hi (by omega)
  exact this ⟨hb.1.symm, hb.2.symm⟩
def Dn (i a : Nat) (i' : Nat) (lab : Int) : Prop := i' < i ∨ (i' = i ∧ lab ≤ a)
structure SI (F : Nat → Int → Nat) (i a : Nat) (s : SeeS) : Prop where
  nd : s.1.Nodup
  ne : ∀ x ∈ s.1, x ≠ 0
  st : ∀ z ∈ s.2, ∃ (i' j : Nat) (lab : Int), z = ((i' : Int), lab, (j : Int)) ∧ i' < s.1.length ∧ j < s.1.length ∧ (1 ≤ lab ∧ lab ≤ 3) ∧ s.1[j]? = some (F (s.1.getD i' 0) lab) ∧ Dn i a i' lab
  cmp : ∀ (i' : Nat) (lab : Int), Dn i a i' lab → i' < s.1.length → 1 ≤ lab → lab ≤ 3 → F (s.1.getD i' 0) lab ≠ 0 → ∃ j : Nat, j < s.1.length ∧ ((i' : Int), lab, (j : Int)) ∈ s.2
  un : s.2.Pairwise fun y z => ¬ (y.1 = z.1 ∧ y.2.1 = z.2.1)
theorem getD_app {l : List Nat} {i : Nat} (h : i < l.length) (m : List Nat) : (l ++ m).getD i 0 = l.getD i 0 := by
  rw [List.getD_eq_getElem?_getD, List.getD_eq_getElem?_getD, List.getElem?_append_left h]
theorem SI.step {n : Int} {l : List St3} {i a : Nat} {s : SeeS} (h : SI (comesN n l) i a s) (hi : i < s.1.length) (ha : a < 3) : SI (comesN n l) i (a + 1) (seeL n l i s ((a + 1 : Nat) : Int)) := by
  have hD : ∀ i' (lab : Int), Dn i (a + 1) i' lab ↔ Dn i a i' lab ∨ (i' = i ∧ lab = ((a + 1 : Nat) : Int)) := fun i' lab => by unfold Dn; omega
  
  have grow : ∀ (m : List Nat) (j : Nat), (s.1 ++ m).Nodup → (∀ x ∈ m, x ≠ 0) → j < (s.1 ++ m).length → (s.1 ++ m)[j]? = some (comesN n l (s.1.getD i 0) ((a + 1 : Nat) : Int)) →
      SI (comesN n l) i (a + 1) (s.1 ++ m, s.2 ++ [((i : Int), ((a + 1 : Nat) : Int), (j : Int))]) := fun m j hnd hne hj hx => by
    have hlen : (s.1 ++ m).length = s.1.length + m.length := List.length_append
    refine ⟨hnd, fun x hx => ?_, fun z hz => ?_, fun i' lab hd hi' h1 h2 h3 => ?_, ?_⟩
    · rcases List.mem_append.1 hx with hx | hx
      · exact h.ne x hx
      · exact hne x hx
    · rcases List.mem_append.1 hz with hz | hz
      · obtain ⟨i', j', lab, rfl, b1, b2, b3, b4, b5⟩ := h.st z hz
        refine ⟨i', j', lab, rfl, ?_, ?_, b3, ?_, (hD _ _).2 (.inl b5)⟩
        · show i' < (s.1 ++ m).length; omega
        · show j' < (s.1 ++ m).length; omega
        · show (s.1 ++ m)[j']? = some (comesN n l ((s.1 ++ m).getD i' 0) lab)
          rw [getD_app b1, List.getElem?_append_left b2]; exact b4
      · rw [List.mem_singleton] at hz; subst hz
        refine ⟨i, j, _, rfl, ?_, hj, by omega, ?_, (hD _ _).2 (.inr ⟨rfl, rfl⟩)⟩
        · show i < (s.1 ++ m).length; omega
        · show (s.1 ++ m)[j]? = some (comesN n l ((s.1 ++ m).getD i 0) _)
          rw [getD_app hi]; exact hx
    · rcases (hD _ _).1 hd with hd | ⟨rfl, rfl⟩
      · have hi2 : i' < s.1.length := by
          rcases hd with hd | hd
          · omega
          · omega
        have h3' : comesN n l (s.1.getD i' 0) lab ≠ 0 := by rw [← getD_app hi2 m]; exact h3
        obtain ⟨j', c1, c2⟩ := h.cmp i' lab hd hi2 h1 h2 h3'
        exact ⟨j', by show j' < (s.1 ++ m).length; omega, List.mem_append.2 (.inl c2)⟩
      · exact ⟨j, hj, List.mem_append.2 (.inr (List.mem_singleton.2 rfl))⟩
    · refine List.pairwise_append.2 ⟨h.un, List.pairwise_singleton _ _, fun y hy z hz => ?_⟩
      rw [List.mem_singleton] at hz; subst hz
      obtain ⟨i', j', lab, rfl, _, _, _, _, b5⟩ := h.st y hy
      rintro ⟨e1, e2⟩
      simp only at e1 e2
      rcases b5 with b5 | b5
      · omega
      · omega
  unfold seeL
  cases h1 : decide (comesN n l (s.1.getD i 0) ((a + 1 : Nat) : Int) = 0) with
  | true =>
    rw [cond_true]
    refine ⟨h.nd, h.ne, fun z hz => ?_, fun i' lab hd hi' c1 c2 c3 => ?_, h.un⟩
    · obtain ⟨i', j', lab, e, b1, b2, b3, b4, b5⟩ := h.st z hz
      exact ⟨i', j', lab, e, b1, b2, b3, b4, (hD _ _).2 (.inl b5)⟩
    · rcases (hD _ _).1 hd with hd | ⟨rfl, rfl⟩
      · exact h.cmp i' lab hd hi' c1 c2 c3
      · exact absurd (of_decide_eq_true h1) c3
  | false =>
    rw [cond_false]
    have hx0 := of_decide_eq_false h1
    cases hf : s.1.findIdx? (fun y => decide (comesN n l (s.1.getD i 0) ((a + 1 : Nat) : Int) = y)) with
    | some k =>
      obtain ⟨hk, hp, _⟩ := List.findIdx?_eq_some_iff_getElem.1 hf
      have hk2 : s.1[k]? = some (comesN n l (s.1.getD i 0) ((a + 1 : Nat) : Int)) := by rw [List.getElem?_eq_getElem hk, of_decide_eq_true hp]
      have := grow [] k (by rw [List.append_nil]; exact h.nd) (fun x hx => by cases hx) (by rw [List.append_nil]; exact hk) (by rw [List.append_nil]; exact hk2)
      rw [List.append_nil] at this
      exact this
    | none =>
      rw [List.findIdx?_eq_none_iff] at hf
      have hn : comesN n l (s.1.getD i 0) ((a + 1 : Nat) : Int) ∉ s.1 := fun hm => by have := hf _ hm; simp at this
      refine grow [comesN n l (s.1.getD i 0) ((a + 1 : Nat) : Int)] s.1.length ?_ (fun x hx => by rw [List.mem_singleton] at hx; subst hx; exact hx0) (by simp) (by simp)
      refine List.nodup_append.2 ⟨h.nd, by simp, fun x hx y hy => ?_⟩
      rw [List.mem_singleton] at hy; subst hy
      rintro rfl; exact hn hx
theorem seeL_pre (n : Int) (l : List St3) (i : Nat) (s : SeeS) (lab : Int) : s.1 <+: (seeL n l i s lab).1 := by
  unfold seeL
  cases decide (comesN n l (s.1.getD i 0) lab = 0) with
  | true => exact List.prefix_refl _
  | false =>
    rw [cond_false]
    cases s.1.findIdx? (fun y => decide (comesN n l (s.1.getD i 0) lab = y)) with
    | none => exact List.prefix_append _ _
    | some k => exact List.prefix_refl _
theorem seeR_is (n : Int) (l : List St3) (i : Nat) (s : SeeS) : seeR n l i s = seeL n l i (seeL n l i (seeL n l i s 1) 2) 3 := rfl
theorem seeR_pre (n : Int) (l : List St3) (i : Nat) (s : SeeS) : s.1 <+: (seeR n l i s).1 := by
  rw [seeR_is]
  exact (seeL_pre n l i s 1).trans ((seeL_pre n l i _ 2).trans (seeL_pre n l i _ 3))
theorem runR_pre (n : Int) (l : List St3) : ∀ (k i : Nat) (s : SeeS), s.1 <+: (runR n l k i s).1
  | 0, i, s => List.prefix_refl _
  | k + 1, i, s => by
    unfold runR
    cases decide (i < s.1.length) with
    | true => exact (seeR_pre n l i s).trans (runR_pre n l k (i + 1) _)
    | false => exact List.prefix_refl _
theorem SI.round {n : Int} {l : List St3} {i : Nat} {s : SeeS} (h : SI (comesN n l) i 0 s) (hi : i < s.1.length) : SI (comesN n l) (i + 1) 0 (seeR n l i s) := by
  have h1 := h.step hi (by decide)
  have i1 : i < (seeL n l i s 1).1.length := Nat.lt_of_lt_of_le hi (seeL_pre n l i s 1).length_le
  have h2 := h1.step i1 (by decide)
  have i2 : i < (seeL n l i (seeL n l i s 1) 2).1.length := Nat.lt_of_lt_of_le i1 (seeL_pre n l i _ 2).length_le
  have h3 := h2.step i2 (by decide)
  have e : seeR n l i s = seeL n l i (seeL n l i (seeL n l i s ((0 + 1 : Nat) : Int)) ((0 + 1 + 1 : Nat) : Int)) ((0 + 1 + 1 + 1 : Nat) : Int) := rfl
  rw [e]
  have hD : ∀ i' (lab : Int), 1 ≤ lab → lab ≤ 3 → (Dn (i + 1) 0 i' lab ↔ Dn i 3 i' lab) := fun i' lab a b => by unfold Dn; omega
  refine ⟨h3.nd, h3.ne, fun z hz => ?_, fun i' lab hd hi' c1 c2 c3 => h3.cmp i' lab ((hD _ _ c1 c2).1 hd) hi' c1 c2 c3, h3.un⟩
  obtain ⟨i', j', lab, e, b1, b2, b3, b4, b5⟩ := h3.st z hz
  exact ⟨i', j', lab, e, b1, b2, b3, b4, (hD _ _ b3.1 b3.2).2 b5⟩
theorem runR_SI {m : Nat} {l : List St3} (S : Sys m l) : ∀ (k i : Nat) (s : SeeS), i + k = 70 → i ≤ s.1.length → SeeI m i s (3 * i) → SI (comesN m l) i 0 s →
    ∃ j, (runR m l k i s).1.length = j ∧ SeeI m j (runR m l k i s) (3 * j) ∧ SI (comesN m l) j 0 (runR m l k i s)
  | 0, i, s, hk, hi, hI, hS => by have := hI.len; omega
  | k + 1, i, s, hk, hi, hI, hS => by
    unfold runR
    by_cases hlt : i < s.1.length
    · have hR := seeR_ok S hI hlt
      have hN : SeeI m (i + 1) (seeR m l i s) (3 * (i + 1)) := by have := hR.1.next; rw [Nat.mul_add]; exact this
      rw [decide_eq_true hlt, cond_true]
      exact runR_SI S k (i + 1) _ (by omega) (by have := hR.2; omega) hN (hS.round hlt)
    · rw [decide_eq_false hlt, cond_false]
      exact ⟨i, by omega, hI, hS⟩
structure FinS (m : Nat) (l : List St3) (k : Nat) (L : List Nat) (st : List St3) : Prop where
  len : L.length = k
  pos : 1 ≤ k
  hd : L[0]? = some (quietN m l 1)
  nd : L.Nodup
  ne : ∀ x ∈ L, x ≠ 0
  lt : ∀ x ∈ L, x < 2 ^ m
  sp : ∀ z ∈ st, ∃ (i j : Nat) (lab : Int), z = ((i : Int), lab, (j : Int)) ∧ i < k ∧ j < k ∧ (1 ≤ lab ∧ lab ≤ 3) ∧ L[j]? = some (comesN m l (L.getD i 0) lab)
  cmp : ∀ (i : Nat) (lab : Int), i < k → 1 ≤ lab → lab ≤ 3 → comesN m l (L.getD i 0) lab ≠ 0 → ∃ j : Nat, j < k ∧ ((i : Int), lab, (j : Int)) ∈ st
  un : st.Pairwise fun y z => ¬ (y.1 = z.1 ∧ y.2.1 = z.2.1)
  cnt : st.length ≤ 3 * k
theorem run_fin {m : Nat} {l : List St3} (S : Sys m l) : FinS m l (sRun m l).1.length (sRun m l).1 (sRun m l).2 := by
  have h0 : SI (comesN m l) 0 0 ([quietN m l 1], []) := ⟨List.pairwise_singleton _ _, fun x hx => by rw [List.mem_singleton] at hx; subst hx; exact quiet_pos m l, fun z hz => (by cases hz), fun i' lab hd hi' h1 h2 h3 => by unfold Dn at hd; omega, List.Pairwise.nil⟩
  obtain ⟨j, e, h1, h2⟩ := runR_SI S 70 0 ([quietN m l 1], []) rfl (Nat.zero_le _) (start S) h0
  have hpre := runR_pre m l 70 0 ([quietN m l 1], [])
  obtain ⟨r, hr⟩ := hpre
  have hd : (sRun m l).1[0]? = some (quietN m l 1) := by
    show (runR m l 70 0 ([quietN m l 1], [])).1[0]? = _
    rw [← hr]; rfl
  have hpos : 1 ≤ (sRun m l).1.length := by
    show 1 ≤ (runR m l 70 0 ([quietN m l 1], [])).1.length
    rw [← hr]; simp
  have ej : (sRun m l).1.length = j := e
  refine ⟨rfl, hpos, hd, h2.nd, h2.ne, h1.lt, fun z hz => ?_, fun i lab hi c1 c2 c3 => h2.cmp i lab (.inl (by omega)) hi c1 c2 c3, h2.un, by rw [ej]; exact h1.stp⟩
  obtain ⟨i', j', lab, e, b1, b2, b3, b4, _⟩ := h2.st z hz
  exact ⟨i', j', lab, e, b1, b2, b3, b4⟩
section
variable {m : Nat} {l : List St3} {k : Nat} {L : List Nat} {st : List St3} (S : Sys m l) (h : FinS m l k L st) (hk : k ≤ 6)
include h hk
theorem fin_valid : vSys (k : Int) st = true := by
  have hg : goodSys ((k : Int) - 1) st = true := goodSys_of (fun z hz => by
    obtain ⟨i, j, lab, rfl, h1, h2, h3, _⟩ := h.sp z hz
    unfold stOk btw
    dsimp only
    rw [decide_eq_true (by omega), decide_eq_true (by omega), decide_eq_true (by omega), decide_eq_true (by omega), decide_eq_true (by omega), decide_eq_true (by omega)]; rfl) (h.un.imp fun {a b} hab e => hab (by rw [e]; exact ⟨rfl, rfl⟩))
  have := h.cnt
  have := h.pos
  unfold vSys btw
  rw [hg, decide_eq_true (by omega), decide_eq_true (by omega), decide_eq_true (by omega)]; rfl
omit hk in
theorem fin_plain : plainD st = true := plainD_of (fun z hz => by
  obtain ⟨i, j, lab, rfl, _, _, h3, _⟩ := h.sp z hz
  simp only; omega) h.un
theorem fin_sys : Sys k st := by
  obtain ⟨m2, e, S2⟩ := Sys.of (fin_valid h hk)
  have : k = m2 := by omega
  subst this; exact S2
theorem fin_one {i j j' : Nat} {lab : Int} (h1 : ((i : Int), lab, (j : Int)) ∈ st) (h2 : ((i : Int), lab, (j' : Int)) ∈ st) : j = j' := by
  have := (plainD_iff (fin_plain h)).2 _ h1 _ h2 rfl rfl
  have := congrArg (fun z : St3 => z.2.2) this
  simp only at this; omega
theorem fin_comes {i : Nat} (hi : i < k) {lab : Int} (h1 : 1 ≤ lab) (h3 : lab ≤ 3) :
    (comesN m l (L.getD i 0) lab = 0 ∧ comesN k st (2 ^ i) lab = 0) ∨ ∃ j, j < k ∧ L[j]? = some (comesN m l (L.getD i 0) lab) ∧ comesN k st (2 ^ i) lab = 2 ^ j := by
  have S2 := fin_sys h hk
  have hp := fin_plain h
  have e : comesN k st (2 ^ i) lab = stepN st (2 ^ i) lab := by
    unfold comesN
    rw [decide_eq_false (by omega), cond_false, plain_quiet hp, plain_quiet hp]
  have hbit : ∀ j, (stepN st (2 ^ i) lab).testBit j = true ↔ ((i : Int), lab, (j : Int)) ∈ st := fun j => by
    rw [stepN_test, List.any_eq_true]
    constructor
    · rintro ⟨z, hz, hb⟩
      simp only [goes, Bool.and_eq_true, decide_eq_true_eq, Nat.testBit_two_pow] at hb
      obtain ⟨a, b, lab', rfl, _, _, _, _⟩ := h.sp z hz
      simp only [Int.toNat_natCast] at hb
      obtain ⟨⟨e1, e2⟩, e3⟩ := hb
      subst e1; subst e2; subst e3
      exact hz
    · intro hz
      refine ⟨_, hz, ?_⟩
      simp only [goes, Int.toNat_natCast, Nat.testBit_two_pow, decide_true, Bool.and_self]
  rw [e]
  by_cases h0 : comesN m l (L.getD i 0) lab = 0
  · refine .inl ⟨h0, ?_⟩
    refine Nat.eq_of_testBit_eq fun j => ?_
    rw [Nat.zero_testBit, Bool.eq_false_iff]
    intro hb
    obtain ⟨a, b, lab', e', _, _, _, b4⟩ := h.sp _ ((hbit j).1 hb)
    have e1 : i = a := by have := congrArg (fun z : St3 => z.1) e'; simp only at this; omega
    have e2 : lab = lab' := congrArg (fun z : St3 => z.2.1) e'
    subst e1; subst e2
    rw [h0] at b4
    exact h.ne 0 (List.mem_of_getElem? b4) rfl
  · obtain ⟨j, hj, hmem⟩ := h.cmp i lab hi h1 h3 h0
    obtain ⟨a, b, lab', e', _, _, _, b4⟩ := h.sp _ hmem
    have e1 : i = a := by have := congrArg (fun z : St3 => z.1) e'; simp only at this; omega
    have e2 : lab = lab' := congrArg (fun z : St3 => z.2.1) e'
    have e3 : j = b := by have := congrArg (fun z : St3 => z.2.2) e'; simp only at this; omega
    subst e1; subst e2; subst e3
    refine .inr ⟨j, hj, b4, ?_⟩
    refine Nat.eq_of_testBit_eq fun j' => ?_
    rw [Nat.testBit_two_pow, Bool.eq_iff_iff, hbit, decide_eq_true_eq]
    exact ⟨fun h2 => fin_one h hk hmem h2, fun h2 => by subst h2; exact hmem⟩
theorem fin_behind : ∀ (w : List Int), Lab w → (behindN m l w = 0 ∧ behindN k st w = 0) ∨ ∃ j, j < k ∧ L[j]? = some (behindN m l w) ∧ behindN k st w = 2 ^ j := fun w => by
  have hlen := h.len
  induction w using snoc_indR with
  | h0 =>
    intro _
    refine .inr ⟨0, by have := h.pos; omega, h.hd, ?_⟩
    show quietN k st 1 = 2 ^ 0
    exact plain_quiet (fin_plain h) 1
  | h1 w a ih =>
    intro hl
    obtain ⟨hl1, hl2⟩ := Lab.snoc.1 hl
    rw [behindN_snoc, behindN_snoc]
    rcases ih hl1 with ⟨a1, a2⟩ | ⟨j, hj, b1, b2⟩
    · rw [a1, a2, comesN_zero, comesN_zero]; exact .inl ⟨rfl, rfl⟩
    · have e : L.getD j 0 = behindN m l w := by rw [List.getD_eq_getElem?_getD, b1]; rfl
      have := fin_comes h hk hj hl2.1 hl2.2
      rw [e] at this
      rw [b2]; exact this
theorem fin_same {w : List Int} (hw : Lab w) : behindN m l w = 0 ↔ behindN k st w = 0 := by
  rcases fin_behind h hk w hw with ⟨a1, a2⟩ | ⟨j, hj, b1, b2⟩
  · rw [a1, a2]
  · rw [b2]
    have h1 := h.ne _ (List.mem_of_getElem? b1)
    have h2 := Nat.two_pow_pos j
    constructor
    · intro h3; exact absurd h3 h1
    · intro h3; omega
end
end Go.Am

set_option maxRecDepth 100000
set_option linter.unusedVariables false
set_option linter.unusedSimpArgs false
set_option linter.unusedSectionVars false
namespace Go.Am
open Go
section
variable {m : Nat} {l : List St3} {k : Nat} {L : List Nat} {st : List St3} (h : FinS m l k L st) (hk : k ≤ 6)
include h hk
end
end Go.Am

set_option maxRecDepth 100000
set_option linter.unusedVariables false
set_option linter.unusedSimpArgs false
set_option linter.unusedSectionVars false
namespace Go.Am
open Go
def hidOne (lab : Int) (z : St3) : St3 := (z.1, bif decide (z.2.1 = lab) then 0 else z.2.1, z.2.2)
def hidStep (lab : Int) (out : List St3) (z : St3) : List St3 := bif out.contains (hidOne lab z) then out else out ++ [hidOne lab z]
def hidL (l : List St3) (lab : Int) : List St3 := l.foldl (hidStep lab) []
theorem hidStep_mem {lab : Int} {out : List St3} {z y : St3} : y ∈ hidStep lab out z ↔ y ∈ out ∨ y = hidOne lab z := by
  unfold hidStep
  cases hc : out.contains (hidOne lab z) with
  | true =>
    rw [cond_true]
    refine ⟨.inl, fun h => h.elim id fun e => ?_⟩
    subst e; exact List.contains_iff_mem.1 hc
  | false => rw [cond_false]; simp
theorem hidF_mem {lab : Int} : ∀ (l out : List St3) (y : St3), y ∈ l.foldl (hidStep lab) out ↔ y ∈ out ∨ ∃ z ∈ l, y = hidOne lab z
  | [], out, y => by simp
  | z :: l, out, y => by
    rw [List.foldl_cons, hidF_mem l, hidStep_mem]
    constructor
    · rintro ((h | h) | ⟨u, hu, h⟩)
      · exact .inl h
      · exact .inr ⟨z, by simp, h⟩
      · exact .inr ⟨u, by simp [hu], h⟩
    · rintro (h | ⟨u, hu, h⟩)
      · exact .inl (.inl h)
      · rcases List.mem_cons.1 hu with rfl | hu
        · exact .inl (.inr h)
        · exact .inr ⟨u, hu, h⟩
theorem mem_hidL {l : List St3} {lab : Int} {y : St3} : y ∈ hidL l lab ↔ ∃ z ∈ l, y = hidOne lab z := by
  unfold hidL; rw [hidF_mem]; simp
theorem hidStep_nodup {lab : Int} {out : List St3} (z : St3) (h : out.Nodup) : (hidStep lab out z).Nodup := by
  unfold hidStep
  cases hc : out.contains (hidOne lab z) with
  | true => exact h
  | false =>
    rw [cond_false, List.nodup_append]
    refine ⟨h, by simp, fun a ha b hb e => ?_⟩
    rw [List.mem_singleton] at hb
    subst hb; subst e
    rw [List.contains_iff_mem.2 ha] at hc; cases hc
theorem hidF_nodup {lab : Int} : ∀ (l out : List St3), out.Nodup → (l.foldl (hidStep lab) out).Nodup
  | [], _, h => h
  | z :: l, out, h => by rw [List.foldl_cons]; exact hidF_nodup l _ (hidStep_nodup z h)
theorem hidL_nodup (l : List St3) (lab : Int) : (hidL l lab).Nodup := hidF_nodup l [] .nil
theorem hidF_len {lab : Int} : ∀ (l out : List St3), (l.foldl (hidStep lab) out).length ≤ out.length + l.length
  | [], out => by simp
  | z :: l, out => by
    rw [List.foldl_cons]
    have := hidF_len (lab := lab) l (hidStep lab out z)
    have h1 : (hidStep lab out z).length ≤ out.length + 1 := by unfold hidStep; cases out.contains (hidOne lab z) <;> simp
    simp only [List.length_cons]; omega
theorem hidL_len (l : List St3) (lab : Int) : (hidL l lab).length ≤ l.length := by simpa [hidL] using hidF_len (lab := lab) l []
theorem hidF_same {lab : Int} : ∀ (l out : List St3), (∀ z ∈ l, hidOne lab z = z) → (out ++ l).Nodup → l.foldl (hidStep lab) out = out ++ l
  | [], out, _, _ => by simp
  | z :: l, out, h, hn => by
    have hz : hidOne lab z = z := h z (by simp)
    have hno : out.contains z = false := by
      rw [Bool.eq_false_iff]
      intro hc
      rw [List.nodup_append] at hn
      exact hn.2.2 z (List.contains_iff_mem.1 hc) z (by simp) rfl
    have e : hidStep lab out z = out ++ [z] := by unfold hidStep; rw [hz, hno]; rfl
    rw [List.foldl_cons, e, hidF_same l _ (fun y hy => h y (by simp [hy])) (by rw [List.append_assoc]; exact hn), List.append_assoc]; rfl
theorem hidOne_two {lab : Int} (h0 : lab ≠ 0) (z : St3) : hidOne lab (hidOne lab z) = hidOne lab z := by
  unfold hidOne
  by_cases h : z.2.1 = lab
  · simp [h, Ne.symm h0]
  · simp [h]
theorem hidL_two {lab : Int} (h0 : lab ≠ 0) (l : List St3) : hidL (hidL l lab) lab = hidL l lab := by
  have := hidF_same (lab := lab) (hidL l lab) [] (fun z hz => by
    obtain ⟨y, _, rfl⟩ := mem_hidL.1 hz
    exact hidOne_two h0 y) (by simpa using hidL_nodup l lab)
  simpa [hidL] using this
theorem stOk_iff {m : Int} {x : St3} : stOk m x = true ↔ (0 ≤ x.1 ∧ x.1 ≤ m) ∧ (0 ≤ x.2.2 ∧ x.2.2 ≤ m) ∧ (0 ≤ x.2.1 ∧ x.2.1 ≤ 3) := by
  unfold stOk
  simp only [Bool.and_eq_true, btw_true]
theorem vSys_st {n : Int} {l : List St3} (hv : vSys n l = true) : (1 ≤ n ∧ n ≤ 6) ∧ l.length ≤ 24 ∧ l.Nodup ∧ ∀ x ∈ l, stOk (n - 1) x = true := by
  unfold vSys at hv
  simp only [Bool.and_eq_true, btw_true, decide_eq_true_eq] at hv
  obtain ⟨⟨h1, h2⟩, h3⟩ := hv
  unfold goodSys at h3
  rw [Bool.not_eq_true', List.any_eq_false] at h3
  have hat : ∀ (i : Nat) (x : St3), l[i]? = some x → stOk (n - 1) x = true ∧ x ∉ l.take i := fun i x hx => by
    have hi : i < l.length := (List.getElem?_eq_some_iff.1 hx).1
    have := h3 i (List.mem_range.2 hi)
    unfold badSt at this
    rw [hx] at this
    simpa [Bool.or_eq_true] using this
  refine ⟨h1, by omega, ?_, fun x hx => ?_⟩
  · unfold List.Nodup
    rw [List.pairwise_iff_getElem]
    intro i j hi hj hij e
    refine (hat j _ (List.getElem?_eq_getElem hj)).2 ?_
    rw [← e]
    have : l[i] = (l.take j)[i]'(by simp; omega) := by rw [List.getElem_take]
    rw [this]; exact List.getElem_mem _
  · obtain ⟨i, hi, rfl⟩ := List.getElem_of_mem hx
    exact (hat i _ (List.getElem?_eq_getElem hi)).1
theorem vSys_of {n : Int} {l : List St3} (h1 : 1 ≤ n ∧ n ≤ 6) (h2 : l.length ≤ 24) (h3 : l.Nodup) (h4 : ∀ x ∈ l, stOk (n - 1) x = true) : vSys n l = true := by
  unfold vSys
  rw [goodSys_of h4 h3, Bool.and_true, Bool.and_eq_true, btw_true, decide_eq_true_eq]
  exact ⟨h1, by omega⟩
theorem hid_valid {n : Int} {l : List St3} (hv : vSys n l = true) (lab : Int) : vSys n (hidL l lab) = true := by
  obtain ⟨h1, h2, h3, h4⟩ := vSys_st hv
  refine vSys_of h1 (Nat.le_trans (hidL_len l lab) h2) (hidL_nodup l lab) (fun x hx => ?_)
  obtain ⟨z, hz, rfl⟩ := mem_hidL.1 hx
  have := stOk_iff.1 (h4 z hz)
  refine stOk_iff.2 ⟨this.1, this.2.1, ?_⟩
  show 0 ≤ (bif decide (z.2.1 = lab) then (0 : Int) else z.2.1) ∧ (bif decide (z.2.1 = lab) then (0 : Int) else z.2.1) ≤ 3
  cases decide (z.2.1 = lab)
  · exact this.2.2
  · exact ⟨Int.le_refl 0, (by decide : (0 : Int) ≤ 3)⟩
theorem sub_valid {n : Int} {l l' : List St3} (hv : vSys n l = true) (hs : l'.Sublist l) : vSys n l' = true := by
  obtain ⟨h1, h2, h3, h4⟩ := vSys_st hv
  exact vSys_of h1 (Nat.le_trans hs.length_le h2) (h3.sublist hs) (fun x hx => h4 x (hs.subset hx))
theorem Sys.same {n : Int} {l : List St3} {m : Nat} (hn : n = m) (hv : vSys n l = true) : Sys m l := by
  obtain ⟨k, hk, S⟩ := Sys.of hv
  have : k = m := by omega
  subst this; exact S
theorem Wi.of {a b : Nat} (h : ∀ j, a.testBit j = true → b.testBit j = true) : Wi a b := by
  unfold Wi
  apply Nat.eq_of_testBit_eq
  intro j
  rw [Nat.testBit_or]
  cases hb : b.testBit j with
  | true => rw [Bool.or_true]
  | false =>
    cases ha : a.testBit j with
    | true => rw [h j ha] at hb; cases hb
    | false => rfl
def hidLab (lab : Int) (x : Int) : Int := bif decide (x = lab) then 0 else x
theorem hid_stepW {l : List St3} {lab : Int} (s : Nat) (x : Int) : Wi (stepN l s x) (stepN (hidL l lab) s (hidLab lab x)) := Wi.of fun j h => by
  rw [stepN_test, List.any_eq_true] at h ⊢
  obtain ⟨z, hz, hg⟩ := h
  rw [Bool.and_eq_true] at hg
  refine ⟨hidOne lab z, mem_hidL.2 ⟨z, hz, rfl⟩, ?_⟩
  rw [Bool.and_eq_true]
  refine ⟨?_, hg.2⟩
  have h1 := hg.1
  unfold goes at h1 ⊢
  rw [Bool.and_eq_true, decide_eq_true_eq] at h1 ⊢
  refine ⟨?_, h1.2⟩
  show (bif decide (z.2.1 = lab) then (0 : Int) else z.2.1) = hidLab lab x
  unfold hidLab
  rw [h1.1]
theorem hid_hidW {l : List St3} {lab : Int} (h0 : lab ≠ 0) (s : Nat) : Wi (hid l s) (hid (hidL l lab) s) := Wi.of fun j h => by
  unfold hid at h ⊢
  rw [Nat.testBit_or, Bool.or_eq_true] at h ⊢
  rcases h with h | h
  · exact .inl h
  · right
    have := (hid_stepW (l := l) (lab := lab) s 0).test h
    have e : hidLab lab 0 = 0 := by unfold hidLab; rw [decide_eq_false (Ne.symm h0)]; rfl
    rwa [e] at this
theorem hid_hidsW {l : List St3} {lab : Int} (h0 : lab ≠ 0) : ∀ (k s : Nat), Wi (hids l k s) (hids (hidL l lab) k s)
  | 0, s => Wi.refl _
  | k + 1, s => by
    show Wi (hids l k (hid l s)) (hids (hidL l lab) k (hid (hidL l lab) s))
    refine (hid_hidsW h0 k (hid l s)).trans ?_
    have := quietN_mono (n := (k : Int)) (l := hidL l lab) (hid_hidW (l := l) h0 s)
    rwa [quietN_nat, quietN_nat] at this
theorem hid_quietW {l : List St3} {lab : Int} (h0 : lab ≠ 0) (m s : Nat) : Wi (quietN m l s) (quietN m (hidL l lab) s) := by
  rw [quietN_nat, quietN_nat]; exact hid_hidsW h0 m s
theorem hid_comesW {m : Nat} {l : List St3} {lab : Int} (h0 : lab ≠ 0) (S : Sys m (hidL l lab)) {s : Nat} (hs : s < 2 ^ m) (x : Int) : Wi (comesN m l s x) (comesN m (hidL l lab) s (hidLab lab x)) := by
  unfold comesN
  by_cases hx0 : x = 0
  · subst hx0
    have e : hidLab lab 0 = 0 := by unfold hidLab; rw [decide_eq_false (Ne.symm h0)]; rfl
    rw [e, decide_eq_true rfl, cond_true, cond_true]
    exact hid_quietW h0 m s
  · rw [decide_eq_false hx0, cond_false]
    have hstep : Wi (stepN l (quietN m l s) x) (stepN (hidL l lab) (quietN m (hidL l lab) s) (hidLab lab x)) :=
      (hid_stepW (lab := lab) _ x).trans (stepN_mono _ _ (hid_quietW h0 m s))
    have hq : Wi (quietN m l (stepN l (quietN m l s) x)) (quietN m (hidL l lab) (stepN (hidL l lab) (quietN m (hidL l lab) s) (hidLab lab x))) :=
      (hid_quietW h0 m _).trans (quietN_mono hstep)
    by_cases hx : x = lab
    · have e : hidLab lab x = 0 := by unfold hidLab; rw [decide_eq_true hx]; rfl
      rw [e] at hq ⊢
      rw [decide_eq_true rfl, cond_true]
      refine hq.trans ?_
      have hfix : hid (hidL l lab) (quietN m (hidL l lab) s) = quietN m (hidL l lab) s := by
        rw [quietN_nat]; exact hids_fix S.sb hs
      have hsub : Wi (stepN (hidL l lab) (quietN m (hidL l lab) s) 0) (quietN m (hidL l lab) s) := Wi.of fun j h => by
        rw [← hfix]
        unfold hid
        rw [Nat.testBit_or, h, Bool.or_true]
      have := quietN_mono (n := (m : Int)) (l := hidL l lab) hsub
      rwa [quiet_quiet S hs] at this
    · have e : hidLab lab x = x := by unfold hidLab; rw [decide_eq_false hx]; rfl
      rw [e] at hq ⊢
      rw [decide_eq_false hx0, cond_false]
      exact hq
theorem ref_hid {m m' : Nat} {l l' : List St3} {lab : Int} (h0 : lab ≠ 0) (S : Sys m l) (S' : Sys m' l') (H : Sys m (hidL l lab)) (H' : Sys m' (hidL l' lab)) (h : mem2 (bestF m l m' l') 0 0) : mem2 (bestF m (hidL l lab) m' (hidL l' lab)) 0 0 := by
  refine ref_of H H' (f := bestF m l m' l') (fun i hi => bestF_out S.le hi) bestF_inB (fun x y hxy => ?_) h
  have hk := keep_iff.1 (best_all S S' x y hxy)
  rw [keep_iff]
  intro z hz hzx
  obtain ⟨u, hu, rfl⟩ := mem_hidL.1 hz
  have hne := hk u hu hzx
  have hy : y < m' := by
    rcases Nat.lt_or_ge y m' with h1 | h1
    · exact h1
    · unfold mem2 at hxy
      rw [Nat.testBit_lt_two_pow (Nat.lt_of_lt_of_le (bestF_inB x) (Nat.pow_le_pow_right (by decide) h1))] at hxy; cases hxy
  have hw := hid_comesW h0 H' (s := 2 ^ y) (Nat.pow_lt_pow_right (by decide) hy) u.2.1
  obtain ⟨j, hj⟩ : ∃ j, (bestF m l m' l' u.2.2.toNat &&& comesN m' l' (2 ^ y) u.2.1).testBit j = true := by
    rcases Classical.em (∃ j, (bestF m l m' l' u.2.2.toNat &&& comesN m' l' (2 ^ y) u.2.1).testBit j = true) with h | h
    · exact h
    · exfalso
      refine hne (Nat.eq_of_testBit_eq fun j => ?_)
      rw [Nat.zero_testBit]
      cases hb : (bestF m l m' l' u.2.2.toNat &&& comesN m' l' (2 ^ y) u.2.1).testBit j with
      | true => exact absurd ⟨j, hb⟩ h
      | false => rfl
  rw [Nat.testBit_and, Bool.and_eq_true] at hj
  exact and_ne (z := j) hj.1 (hw.test hj.2)
theorem ref_sub {m : Nat} {l l' : List St3} (S : Sys m l) (S' : Sys m l') (hs : ∀ z ∈ l', z ∈ l) : mem2 (bestF m l' m l) 0 0 := by
  refine ref_of S' S (f := idF m) (fun i hi => idF_out (by omega)) (fun i => ?_) (fun x y hxy => ?_) ?_
  · by_cases hi : i < m
    · rw [idF_in hi]; exact Nat.pow_lt_pow_right (by decide) hi
    · rw [idF_out hi]; exact Nat.two_pow_pos m
  · have hx : x < m := by
      rcases Nat.lt_or_ge x m with h | h
      · exact h
      · unfold mem2 at hxy; rw [idF_out (by omega)] at hxy; simp at hxy
    have hxy' : x = y := by
      unfold mem2 at hxy
      rw [idF_in hx, Nat.testBit_two_pow] at hxy
      exact of_decide_eq_true hxy
    subst hxy'
    rw [keep_iff]
    intro z hz hz1
    have hto := S'.sb z hz
    rw [idF_in hto]
    refine and_ne (z := z.2.2.toNat) (by rw [Nat.testBit_two_pow]; exact decide_eq_true rfl) (comes_has S (hs z hz) ?_)
    rw [hz1, Int.toNat_natCast, Nat.testBit_two_pow]; exact decide_eq_true rfl
  · unfold mem2
    rw [idF_in S.pos]; rfl
end Go.Am
