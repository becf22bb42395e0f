/- Own text: RL39. -/
import Derived.Test.YtcnplegmmmobcaaRL36
set_option maxRecDepth 100000
set_option linter.unusedVariables false
set_option linter.unusedSimpArgs false
namespace Go.Am
open Go
theorem prevW {i : Nat} (h : 0 < i) (h2 : i < Lg) : Ar.std.wrp .i64 (Ar.std.zsub (i : Int) 1) = ((i - 1 : Nat) : Int) := by
  have h2' : i < 9223372036854775808 := h2
  rw [std_wrp, std_zsub, wrapS (by omega) (by omega)]; omega
theorem btw_lo {a : Int} {m : Nat} (h : btw 0 a ((m : Int) - 1) = true) : 0 ≤ a ∧ a.toNat < m := by
  simp only [btw, Bool.and_eq_true, decide_eq_true_eq] at h; omega
theorem badR_ok {m n : Nat} {r : List P2} {i : Nat} {p : P2} (h : r[i]? = some p) (hb : badR m n r i = false) : (0 ≤ p.1 ∧ p.1.toNat < m) ∧ (0 ≤ p.2 ∧ p.2.toNat < n) := by
  rw [badR_get h] at hb
  simp only [Bool.or_eq_false_iff, Bool.not_eq_false', Bool.and_eq_true] at hb
  exact ⟨btw_lo hb.1.1, btw_lo hb.1.2⟩
theorem isRel_ok {m n : Nat} {r : List P2} (h : isRel m n r = true) : ∀ p ∈ r, (0 ≤ p.1 ∧ p.1.toNat < m) ∧ (0 ≤ p.2 ∧ p.2.toNat < n) := by
  intro p hp
  obtain ⟨i, hi, rfl⟩ := List.getElem_of_mem hp
  refine badR_ok (List.getElem?_eq_getElem hi) ?_
  unfold isRel at h
  rw [Bool.not_eq_true'] at h
  rw [Bool.eq_false_iff]
  intro hb
  rw [Bool.eq_false_iff] at h
  exact h (List.any_eq_true.2 ⟨i, List.mem_range.2 hi, hb⟩)
theorem R85_eq {m n : Nat} (hm : 1 ≤ m ∧ m ≤ 6) (hn : 1 ≤ n ∧ n ≤ 6) (r : List P2) (hr : r.length < Lg) : ∃ f, R85 Ar.std (ePr r) (m : Int) (n : Int) = some (rU f, isRel m n r) ∧ (isRel m n r = true → f = relF r) := by
  have w1 : Ar.std.wrp .i64 (Ar.std.zsub (m : Int) 1) = (m : Int) - 1 := by rw [std_wrp, std_zsub, wrapS (by omega) (by omega)]
  have w2 : Ar.std.wrp .i64 (Ar.std.zsub (n : Int) 1) = (n : Int) - 1 := by rw [std_wrp, std_zsub, wrapS (by omega) (by omega)]
  have hB : ∀ i, i < r.length → (∀ j, j < i → badR m n r j = false) → ∀ p ∈ r.take i, (0 ≤ p.1 ∧ p.1.toNat < m) ∧ (0 ≤ p.2 ∧ p.2.toNat < n) := fun i hi hj p hp => by
    obtain ⟨j, hjl, rfl⟩ := List.getElem_of_mem hp
    rw [List.length_take] at hjl
    rw [List.getElem_take]
    exact badR_ok (List.getElem?_eq_getElem (by omega)) (hj j (by omega))
  have key := iter_stopP (step := R85L0 Ar.std (ePr r) (m : Int) (n : Int)) r.length (fun i => ((i : Int), rU (relF (r.take i)))) (badR m n r) (rU (relF r)) (fun z => ∃ f, z = (rU f, rU f, rU f)) (fun i hi hj => by
    have hp := List.getElem?_eq_getElem hi
    have hlo := hB i hi hj
    have h64 := relF_lt (r := r.take i) fun p hp => by have := (hlo p hp).2.2; omega
    generalize r[i] = p at hp
    have hget : gt Ar.std cP (ePr r) (i : Int) = some p := gt_enc hp
    have hi' : i < 9223372036854775808 := Nat.lt_trans hi hr
    have hbad : ((R65 Ar.std 0 p.1 ((m : Int) - 1)).bind fun r57 => bif r57 then (R65 Ar.std 0 p.2 ((n : Int) - 1)).bind fun r60 => bif r60 then bif (Ar.std.zlt 0 (i : Int)) then
        (gt Ar.std cP (ePr r) (Ar.std.wrp .i64 (Ar.std.zsub (i : Int) 1))).bind fun x => (R108 Ar.std x.1 x.2 p.1 p.2).bind fun r69 => some (Ar.std.zle 0 r69) else some false else some true else some true) = some (badR m n r i) := by
      rw [badR_get hp, R65_eq, bsome, R65_eq, bsome, std_zlt]
      cases btw 0 p.1 ((m : Int) - 1) with
      | false => rfl
      | true =>
        cases btw 0 p.2 ((n : Int) - 1) with
        | false => rfl
        | true =>
          rw [cond_true, cond_true]
          rcases Nat.eq_zero_or_pos i with h0 | h0
          · subst h0; rfl
          · rw [decide_eq_true (by omega : (0 : Int) < (i : Int)), cond_true, prevW h0 (by omega : i < 9223372036854775808)]
            have hq := List.getElem?_eq_getElem (l := r) (i := i - 1) (by omega)
            generalize r[i - 1] = q at hq
            have hget' : gt Ar.std cP (ePr r) ((i - 1 : Nat) : Int) = some q := gt_enc hq
            obtain ⟨s, e1, e2⟩ := R108_some q p
            rw [hget', bsome, e1, bsome, e2, hq, Option.map_some, Option.getD_some, decide_eq_true h0]; rfl
    have hbad' : ((R65 Ar.std 0 p.1 ((m : Int) - 1)).bind fun r57 => bif r57 then (R65 Ar.std 0 p.2 ((n : Int) - 1)).bind fun r60 => bif r60 then bif (Ar.std.zlt 0 (i : Int)) then
        (gt Ar.std cP (ePr r) (Ar.std.wrp .i64 (Ar.std.zsub (i : Int) 1))).bind fun (a63, a64) => (R108 Ar.std a63 a64 p.1 p.2).bind fun r69 => some (Ar.std.zle 0 r69) else some false else some true else some true) = some (badR m n r i) := hbad
    have hstep : R85L0 Ar.std (ePr r) (m : Int) (n : Int) ((i : Int), rU (relF (r.take i))) = bif badR m n r i then some (.inr (.inr (rU (relF (r.take i)), rU (relF (r.take i)), rU (relF (r.take i))))) else
        (ck (Ar.std.zle 0 p.1)).bind fun _ => (ck (Ar.std.zlt p.1 (Int.ofNat 6))).bind fun _ => (gc Ar.std (cI .u8) (rU (relF (r.take i))) (Ar.std.nat (Ar.std.zadd 0 (Ar.std.zmul p.1 (Int.ofNat 1))))).bind fun a90 =>
        (nk (Ar.std.zlt p.2 0)).bind fun _ => (ck (Ar.std.zle 0 p.1)).bind fun _ => (ck (Ar.std.zlt p.1 (Int.ofNat 6))).bind fun _ => (Ar.std.lget (rU (relF (r.take i))) (Ar.std.nat (Ar.std.zadd 0 (Ar.std.zmul p.1 (Int.ofNat 1))))).bind fun d99 =>
        some (.inl ((Ar.std.wrp .i64 (Ar.std.zadd (i : Int) 1)), (Ar.std.lset (rU (relF (r.take i))) (Ar.std.nat (Ar.std.zadd 0 (Ar.std.zmul p.1 (Int.ofNat 1)))) (.int .u8 (Ar.std.bits .or .u8 a90 (Ar.std.shl .u8 1 p.2)))))) := by
      unfold R85L0
      dsimp only
      rw [ltS hi, cond_true, hget, bsome]
      rw [w1, w2, hbad', bsome, rU_ga, bsome, rU_len, bsome, rU_room, bsome, rU_spl, rU_len, bsome, rU_ones, bsome]
    refine ⟨fun hb => ?_, fun hb => ⟨_, ⟨_, rfl⟩, by rw [hstep, hb, cond_true]⟩⟩
    have hok := badR_ok hp hb
    rw [hb, cond_false] at hstep
    obtain ⟨a, ha⟩ : ∃ a : Nat, p.1 = (a : Int) := ⟨p.1.toNat, by omega⟩
    obtain ⟨b, hb'⟩ : ∃ b : Nat, p.2 = (b : Int) := ⟨p.2.toNat, by omega⟩
    have ha6 : a < 6 := by omega
    have hb6 : b < 6 := by omega
    rw [hstep, ha, hb', ckN, bsome, ckL ha6, bsome, ix1, rU_gc _ ha6, bsome, nkN, bsome, bsome, bsome, rU_lget _ ha6, bsome, shlS (by omega), orS (h64 a) (pow6 hb6), rU_lset, inc hi hr, take_succ_get hp, relF_snoc]
    unfold putP
    rw [ha, hb']; rfl) (fun _ => by
    unfold R85L0
    dsimp only
    rw [geS, cond_false, List.take_length])
  have e0 : (((0 : Nat) : Int)) = 0 := rfl
  rw [e0, List.take_zero] at key
  have e1 : rU (relF []) = rU fun _ => 0 := rfl
  rw [e1] at key
  unfold R85 isRel
  rw [rU_rep]
  rcases key with ⟨h1, _, h3⟩ | ⟨h1, z, ⟨f, rfl⟩, h3⟩
  · refine ⟨relF r, ?_, fun _ => rfl⟩
    rw [h3, bsome, h1, Sum.elim_inl, rU_ga, bsome, rU_len, bsome, ← rU_rep, rU_room, bsome, rU_spl, rU_len, bsome, rU_ones, bsome]; rfl
  · refine ⟨f, ?_, fun h => ?_⟩
    · rw [h3, bsome, h1]; rfl
    · rw [h1] at h; cases h
theorem R87_eq {m n : Nat} (r : List P2) (hr : r.length < Lg) : R87 Ar.std (ePr r) (m : Int) (n : Int) = some (isRel m n r) := by
  have key := iter_stopP (step := R87L0 Ar.std (ePr r) (m : Int) (n : Int)) r.length (fun i => (i : Int)) (badR m n r) () (fun _ => True) (fun i hi hj => by
    have hp := List.getElem?_eq_getElem hi
    generalize r[i] = p at hp
    have hget : gt Ar.std cP (ePr r) (i : Int) = some p := gt_enc hp
    have hi' : i < 9223372036854775808 := Nat.lt_trans hi hr
    have h1 : (bif Ar.std.zlt p.1 0 then some true else bif Ar.std.zle (m : Int) p.1 then some true else bif Ar.std.zlt p.2 0 then some true else some (Ar.std.zle (n : Int) p.2)) = some (!(btw 0 p.1 ((m : Int) - 1) && btw 0 p.2 ((n : Int) - 1))) := by
      rw [std_zlt, std_zle, std_zlt, std_zle]
      unfold btw
      rw [show decide (p.1 < 0) = !decide (0 ≤ p.1) from by rw [← decide_not]; exact decide_eq_decide.2 (by omega), show decide ((m : Int) ≤ p.1) = !decide (p.1 ≤ (m : Int) - 1) from by rw [← decide_not]; exact decide_eq_decide.2 (by omega),
        show decide (p.2 < 0) = !decide (0 ≤ p.2) from by rw [← decide_not]; exact decide_eq_decide.2 (by omega), show decide ((n : Int) ≤ p.2) = !decide (p.2 ≤ (n : Int) - 1) from by rw [← decide_not]; exact decide_eq_decide.2 (by omega)]
      cases decide (0 ≤ p.1) <;> cases decide (p.1 ≤ (m : Int) - 1) <;> cases decide (0 ≤ p.2) <;> cases decide (p.2 ≤ (n : Int) - 1) <;> rfl
    have h2 : (bif Ar.std.zlt 0 (i : Int) then (gt Ar.std cP (ePr r) (Ar.std.wrp .i64 (Ar.std.zsub (i : Int) 1))).bind fun x => bif Ar.std.zlt p.1 x.1 then some true else bif Ar.std.zeq p.1 x.1 then some (Ar.std.zle p.2 x.2) else some false else some false) = some (decide (0 < i) && !((r[i - 1]?.map fun q => lessP q p).getD true)) := by
      rcases Nat.eq_zero_or_pos i with h0 | h0
      · subst h0; rfl
      · rw [std_zlt, decide_eq_true (by omega : (0 : Int) < (i : Int)), cond_true, prevW h0 (by omega : i < 9223372036854775808)]
        have hq := List.getElem?_eq_getElem (l := r) (i := i - 1) (by omega)
        generalize r[i - 1] = q at hq
        have hget' : gt Ar.std cP (ePr r) ((i - 1 : Nat) : Int) = some q := gt_enc hq
        rw [hget', bsome, hq, Option.map_some, Option.getD_some, decide_eq_true h0, std_zlt, std_zeq, std_zle]
        unfold lessP
        by_cases k : p.1 < q.1
        · rw [decide_eq_true k, decide_eq_false (by omega : ¬ q.1 < p.1), decide_eq_false (by omega : ¬ q.1 = p.1)]; rfl
        · by_cases k2 : p.1 = q.1
          · rw [decide_eq_false k, decide_eq_true k2, decide_eq_false (by omega : ¬ q.1 < p.1), decide_eq_true k2.symm]
            by_cases k3 : p.2 ≤ q.2
            · rw [decide_eq_true k3, decide_eq_false (by omega : ¬ q.2 < p.2)]; rfl
            · rw [decide_eq_false k3, decide_eq_true (by omega : q.2 < p.2)]; rfl
          · rw [decide_eq_false k, decide_eq_false k2, decide_eq_true (by omega : q.1 < p.1)]; rfl
    have h2' : (bif Ar.std.zlt 0 (i : Int) then (gt Ar.std cP (ePr r) (Ar.std.wrp .i64 (Ar.std.zsub (i : Int) 1))).bind fun (a31, a32) => bif Ar.std.zlt p.1 a31 then some true else bif Ar.std.zeq p.1 a31 then some (Ar.std.zle p.2 a32) else some false else some false) = some (decide (0 < i) && !((r[i - 1]?.map fun q => lessP q p).getD true)) := h2
    have hstep : R87L0 Ar.std (ePr r) (m : Int) (n : Int) (i : Int) = some (bif badR m n r i then .inr (.inr ()) else .inl ((i + 1 : Nat) : Int)) := by
      unfold R87L0
      rw [ltS hi, cond_true, hget, bsome]
      dsimp only
      rw [h1, bsome, h2', badR_get hp, inc hi hr]
      cases (!(btw 0 p.1 ((m : Int) - 1) && btw 0 p.2 ((n : Int) - 1))) with
      | true => rfl
      | false =>
        rw [cond_false, bsome, Bool.false_or]
        cases (decide (0 < i) && !((r[i - 1]?.map fun q => lessP q p).getD true)) <;> rfl
    exact ⟨fun hb => by rw [hstep, hb, cond_false], fun hb => ⟨(), trivial, by rw [hstep, hb, cond_true]⟩⟩) (fun _ => by
    unfold R87L0
    rw [geS, cond_false])
  have e0 : (((0 : Nat) : Int)) = 0 := rfl
  rw [e0] at key
  unfold R87 isRel
  rcases key with ⟨h1, _, h3⟩ | ⟨h1, z, _, h3⟩
  · rw [h3, bsome, h1]; rfl
  · rw [h3, bsome, h1]; rfl
end Go.Am

set_option maxRecDepth 100000
set_option linter.unusedVariables false
set_option linter.unusedSimpArgs false
namespace Go.Am
open Go
def prs (n : Nat) (f : Nat → Nat) : List P2 := (List.range n).flatMap fun x => (bl (f x)).map fun y : Nat => ((x : Int), (y : Int))
theorem prs_len (n : Nat) (f : Nat → Nat) : (prs n f).length ≤ n * 6 := by
  have := flat_le (fun x => (bl (f x)).map fun y : Nat => ((x : Int), (y : Int))) 6 (List.range n) (fun x _ => by rw [List.length_map]; exact bl_len _)
  rw [List.length_range] at this
  exact this
theorem prs_succ (n : Nat) (f : Nat → Nat) : prs (n + 1) f = prs n f ++ (bl (f n)).map fun y : Nat => ((n : Int), (y : Int)) := by
  unfold prs; rw [List.range_succ, List.flatMap_append, List.flatMap_singleton]
theorem ap_pr {ls : List P2} (x : P2) (h : ls.length < 4294967295) : ap Ar.std (ePr ls) [.agg [.int .i64 x.1, .int .i64 x.2]] = some (ePr (ls ++ [x])) := ap_enc1 rfl h
theorem R86L0_eq (x : Nat) (s : Nat) (out : List P2) (ho : out.length ≤ 1000) : iter (R86L0 Ar.std (x : Int) (eInt (cNs (bl s)))) (ePr out, 0) = some (ePr (out ++ (bl s).map fun y : Nat => ((x : Int), (y : Int)))) := by
  have hb := bl_len s
  have key := iter_pre (step := R86L0 Ar.std (x : Int) (eInt (cNs (bl s)))) (bl s) (fun pre => out ++ pre.map fun y : Nat => ((x : Int), (y : Int))) (fun S i => (ePr S, (i : Int))) ePr (fun i a ha hi => by
    have hlt : Ar.std.zlt (i : Int) (Ar.std.len (eInt (cNs (bl s)))) = true := by rw [eIc_len]; exact ltN hi
    have hg : gt Ar.std (cI .i64) (eInt (cNs (bl s))) (i : Int) = some (a : Int) := gt_enc (cNs_get ha)
    have hap := ap_pr (ls := out ++ ((bl s).take i).map fun y : Nat => ((x : Int), (y : Int))) ((x : Int), (a : Int)) (by rw [List.length_append, List.length_map, List.length_take]; omega)
    unfold R86L0
    dsimp only
    rw [hlt, cond_true, hg, bsome, hap, bsome, inc (by omega : i < 100) (by decide), List.map_append, List.append_assoc]; rfl) (by
    unfold R86L0
    dsimp only
    rw [show Ar.std.zlt ((bl s).length : Int) (Ar.std.len (eInt (cNs (bl s)))) = false from by rw [eIc_len]; exact geN _, cond_false])
  rw [List.map_nil, List.append_nil] at key
  exact key
theorem R86_eq {f : Nat → Nat} (h : ∀ i, f i < 64) : R86 Ar.std (rU f) = some (ePr (prs 6 f)) := by
  have key := iter_to (step := R86L1 Ar.std (rU f)) 6 (fun i => (ePr (prs i f), (i : Int))) (ePr (prs 6 f)) (fun i hi => by
    have hp := prs_len i f
    unfold R86L1
    dsimp only
    rw [show Ar.std.zlt (i : Int) 6 = true from by rw [std_zlt]; exact decide_eq_true (by omega), cond_true, ckN, bsome, ckL hi, bsome, show Ar.std.nat (i : Int) = i from by rw [std_nat, Int.toNat_natCast], rU_gc _ hi, bsome, R76_eq _ (h i), bsome, R86L0_eq i (f i) _ (by omega), bsome, inc (by omega : i < 100) (by decide), prs_succ]) (by
    unfold R86L1
    dsimp only
    rw [show Ar.std.zlt ((6 : Nat) : Int) 6 = false from rfl, cond_false])
  unfold R86
  rw [rU_len, bsome, rU_ga, bsome]
  have e : iter (R86L1 Ar.std (rU f)) ([], 0) = some (ePr (prs 6 f)) := key
  rw [e]; rfl
def rI (n : Nat) (f : Nat → Nat) : List D := enc (cI .i64) ((List.range n).map fun i => ((f i : Nat) : Int))
theorem rI_get {n : Nat} (f : Nat → Nat) {i : Nat} (h : i < n) : ((List.range n).map fun i => ((f i : Nat) : Int))[i]? = some ((f i : Nat) : Int) := by
  rw [List.getElem?_map, List.getElem?_range h]; rfl
theorem rI_gc {n : Nat} (f : Nat → Nat) {i : Nat} (h : i < n) : gc Ar.std (cI .i64) (rI n f) i = some ((f i : Nat) : Int) := gc_enc (rI_get f h)
theorem rI_lget {n : Nat} (f : Nat → Nat) {i : Nat} (h : i < n) : Ar.std.lget (rI n f) i = some (.int .i64 ((f i : Nat) : Int)) := by
  show (rI n f)[i]? = _
  unfold rI
  rw [enc_get, rI_get f h]; rfl
theorem rI_lset {n : Nat} (f : Nat → Nat) (k v : Nat) : Ar.std.lset (rI n f) k (.int .i64 (v : Int)) = rI n (upd f k v) := by
  rw [std_lset]
  refine List.ext_getElem? fun j => ?_
  rw [List.getElem?_set]
  have hl : (rI n f).length = n := by simp [rI]
  by_cases hj : j < n
  · have h1 := rI_lget f hj
    have h2 := rI_lget (upd f k v) hj
    rw [std_lget] at h1 h2
    rw [h1, h2, hl]
    by_cases h : k = j
    · subst h
      rw [if_pos rfl, if_pos hj]; simp [upd]
    · rw [if_neg h]
      unfold upd
      rw [if_neg (fun e => h e.symm)]
  · have h2 : (rI n (upd f k v))[j]? = none := by rw [List.getElem?_eq_none_iff]; simp [rI]; omega
    have h1 : (rI n f)[j]? = none := by rw [List.getElem?_eq_none_iff]; omega
    rw [h1, h2, hl]
    by_cases h : k = j
    · rw [if_pos h, if_neg (by omega)]
    · rw [if_neg h]
theorem rI_rep (n : Nat) : Ar.std.rep (n : Int) (.int .i64 0) = rI n (fun _ => 0) := by
  rw [std_rep, Int.toNat_natCast]
  unfold rI enc
  rw [List.map_map]
  refine List.ext_getElem? fun j => ?_
  rw [List.getElem?_replicate, List.getElem?_map]
  by_cases hj : j < n
  · rw [if_pos hj, List.getElem?_range hj]; rfl
  · rw [if_neg hj, List.getElem?_eq_none (by simp; omega)]; rfl
theorem R88L0_is : R88L0 = R86L0 := rfl
theorem zaddZ (i : Nat) : Ar.std.nat (Ar.std.zadd 0 (i : Int)) = i := nat0 i
theorem R88_eq {n : Nat} (hn : n ≤ 6) {f : Nat → Nat} (h : ∀ i, f i < 64) : R88 Ar.std 0 (n : Int) (rI n f) = some (ePr (prs n f)) := by
  have key := iter_to (step := R88L1 Ar.std 0 (n : Int) (rI n f)) n (fun i => (ePr (prs i f), (i : Int))) (ePr (prs n f)) (fun i hi => by
    have hp := prs_len i f
    unfold R88L1
    dsimp only
    rw [R88L0_is, ltN hi, cond_true, ckN, bsome, ck_true, bsome, zaddZ, rI_gc _ hi, bsome, R78_eq _ (i62 (h i)), bsome, R86L0_eq i (f i) _ (by omega), bsome, inc (by omega : i < 100) (by decide), prs_succ]) (by
    unfold R88L1
    dsimp only
    rw [geN, cond_false])
  unfold R88
  have e : iter (R88L1 Ar.std 0 (n : Int) (rI n f)) ([], 0) = some (ePr (prs n f)) := key
  rw [e]; rfl
theorem deq_pr (x y : P2) : Ar.std.deq [.int .i64 x.1, .int .i64 x.2] [.int .i64 y.1, .int .i64 y.2] = decide (x = y) := by
  obtain ⟨a, b⟩ := x; obtain ⟨a', b'⟩ := y
  rw [std_deq]
  exact decide_eq_decide.2 (by simp)
theorem R41_same (l : List P2) (hl : l.length < Lg) : R41 Ar.std (ePr l) (ePr l) = some true := by
  have key := iter_any (step := R41L0 Ar.std (ePr l) (ePr l)) l (fun _ => false) (.inr ()) (.inl ()) (fun i r hx hi => by
    unfold R41L0
    rw [ltS hi, cond_true, gt_enc hx, bsome]
    dsimp only
    rw [bsome, deq_pr, decide_eq_true rfl, cond_true, inc hi hl]; rfl) (by
    unfold R41L0
    rw [geS, cond_false])
  have hany : (l.any fun _ => false) = false := by simp
  rw [hany] at key
  unfold R41
  rw [zeqS, cond_true, key]; rfl
theorem fold_testP {α : Type} {st : (Nat → Nat) → α → Nat → Nat} {c : α → Nat → Nat → Bool} (h : ∀ f a x y, (st f a x).testBit y = ((f x).testBit y || c a x y)) : ∀ (l : List α) (f : Nat → Nat) (x y : Nat), (l.foldl st f x).testBit y = ((f x).testBit y || l.any fun a => c a x y)
  | [], f, x, y => by simp
  | a :: l, f, x, y => by
    rw [List.foldl_cons, fold_testP h l, h, List.any_cons, Bool.or_assoc]
theorem putP_test (f : Nat → Nat) (p : P2) (x y : Nat) : (putP f p x).testBit y = ((f x).testBit y || (decide (p.1.toNat = x) && decide (p.2.toNat = y))) := by
  unfold putP upd
  by_cases h : x = p.1.toNat
  · subst h
    rw [if_pos rfl, Nat.testBit_or, Nat.testBit_two_pow, decide_eq_true rfl, Bool.true_and]
  · rw [if_neg h, decide_eq_false (fun e => h e.symm)]; simp
theorem relF_test (r : List P2) (x y : Nat) : (relF r x).testBit y = r.any fun p => decide (p.1.toNat = x) && decide (p.2.toNat = y) := by
  unfold relF
  rw [fold_testP putP_test r]; simp
def compF (f g : Nat → Nat) (x : Nat) : Nat := orAll g (bl (f x))
theorem orAll_test (g : Nat → Nat) (l : List Nat) (z : Nat) : (orAll g l).testBit z = l.any fun y => (g y).testBit z := by
  induction l with
  | nil => simp [orAll]
  | cons a l ih => rw [orAll_cons, Nat.testBit_or, ih, List.any_cons]
theorem compF_test (f g : Nat → Nat) (x z : Nat) : (compF f g x).testBit z = (List.range 6).any fun y => (f x).testBit y && (g y).testBit z := by
  unfold compF
  rw [orAll_test, bl, List.any_filter]
theorem compF_lt {f g : Nat → Nat} (hg : ∀ i, g i < 64) (x : Nat) : compF f g x < 64 := orAll_lt (n := 6) fun i _ => hg i
def docP (p : P2) (f : Nat → Nat) (q : P2) : Nat → Nat := bif decide (p.2 = q.1) then putP f (p.1, q.2) else f
def docC (s : List P2) (f : Nat → Nat) (p : P2) : Nat → Nat := s.foldl (docP p) f
theorem docP_test (p : P2) (f : Nat → Nat) (q : P2) (x y : Nat) : (docP p f q x).testBit y = ((f x).testBit y || (decide (p.2 = q.1) && (decide (p.1.toNat = x) && decide (q.2.toNat = y)))) := by
  unfold docP
  cases decide (p.2 = q.1) with
  | true => rw [cond_true, putP_test]; simp
  | false => simp
theorem docC_test (s : List P2) (f : Nat → Nat) (p : P2) (x y : Nat) : (docC s f p x).testBit y = ((f x).testBit y || s.any fun q => decide (p.2 = q.1) && (decide (p.1.toNat = x) && decide (q.2.toNat = y))) :=
  fold_testP (fun f q x y => docP_test p f q x y) s f x y
theorem docP_lt {p : P2} {f : Nat → Nat} (h : ∀ i, f i < 64) {q : P2} (hq : q.2.toNat < 6) (i : Nat) : docP p f q i < 64 := by
  unfold docP
  cases decide (p.2 = q.1) with
  | true => exact putP_lt (p := (p.1, q.2)) h hq i
  | false => exact h i
theorem docC_lt {p : P2} : ∀ {s : List P2} {f : Nat → Nat}, (∀ i, f i < 64) → (∀ q ∈ s, q.2.toNat < 6) → ∀ i, docC s f p i < 64
  | [], f, h, _ => h
  | q :: s, f, h, hs => docC_lt (s := s) (f := docP p f q) (docP_lt h (hs q (by simp))) fun a ha => hs a (by simp [ha])
theorem comp_same {r s : List P2} (hr : isRel 6 6 r = true) (hs : isRel 6 6 s = true) : r.foldl (docC s) (fun _ => 0) = compF (relF r) (relF s) := by
  funext x
  refine Nat.eq_of_testBit_eq fun z => ?_
  rw [fold_testP (fun f p x y => docC_test s f p x y) r, compF_test, Nat.zero_testBit, Bool.false_or, Bool.eq_iff_iff]
  simp only [List.any_eq_true, List.mem_range, Bool.and_eq_true, decide_eq_true_eq, relF_test]
  constructor
  · rintro ⟨p, hp, q, hq, h1, h2, h3⟩
    have a1 := isRel_ok hr p hp
    exact ⟨p.2.toNat, a1.2.2, ⟨p, hp, h2, rfl⟩, q, hq, by rw [h1], h3⟩
  · rintro ⟨y, hy, ⟨p, hp, h1, h2⟩, q, hq, h3, h4⟩
    have a1 := isRel_ok hr p hp
    have a2 := isRel_ok hs q hq
    exact ⟨p, hp, q, hq, by omega, h1, h4⟩
end Go.Am

set_option maxRecDepth 100000
set_option linter.unusedVariables false
set_option linter.unusedSimpArgs false
namespace Go.Am
open Go
theorem ckL' {i n : Nat} (h : i < n) : ck (Ar.std.zlt (i : Int) (n : Int)) = some () := ckL h
theorem orI {a b : Nat} (ha : a < 64) (hb : b < 64) : Ar.std.bits .or .i64 (a : Int) (b : Int) = ((a ||| b : Nat) : Int) := by rw [std_bits]; exact or_i64 a b (by omega) (by omega)
theorem shlI {q : Nat} (h : q < 62) : Ar.std.shl .i64 1 (q : Int) = ((2 ^ q : Nat) : Int) := by rw [std_shl]; exact shl_i64 q h
theorem updf2 (f : Nat → Nat) (k a b : Nat) : upd (upd f k a) k b = upd f k b := by
  funext j; unfold upd; split <;> rfl
theorem R39L0_eq {f g : Nat → Nat} (hf : ∀ i, f i < 64) (hg : ∀ i, g i < 64) {x : Nat} (hx : x < 6) (s : Nat) : iter (R39L0 Ar.std (rU g) (x : Int) (eInt (cNs (bl s)))) (0, rU f) = some (rU (upd f x (f x ||| orAll g (bl s)))) := by
  have hb := bl_len s
  have key := iter_pre (step := R39L0 Ar.std (rU g) (x : Int) (eInt (cNs (bl s)))) (bl s) (fun pre => upd f x (f x ||| orAll g pre)) (fun S i => ((i : Int), rU S)) rU (fun i a ha hi => by
    have hlt : Ar.std.zlt (i : Int) (Ar.std.len (eInt (cNs (bl s)))) = true := by rw [eIc_len]; exact ltN hi
    have hgt : gt Ar.std (cI .i64) (eInt (cNs (bl s))) (i : Int) = some (a : Int) := gt_enc (cNs_get ha)
    have ha6 : a < 6 := (mem_bl.1 (List.mem_of_getElem? ha)).1
    have hu : upd f x (f x ||| orAll g ((bl s).take i)) x < 64 := by
      unfold upd; rw [if_pos rfl]; exact or_lt (n := 6) (hf x) (orAll_lt (n := 6) fun i _ => hg i)
    unfold R39L0
    dsimp only
    rw [hlt, cond_true, hgt, bsome, ckN, bsome, ckL hx, bsome, ix1, rU_gc _ hx, bsome, ckN, bsome, ckL ha6, bsome, ix1, rU_spl, rU_gc _ ha6, bsome, bsome, bsome, rU_lget _ hx, bsome, orS hu (hg a), rU_lset, inc (by omega : i < 100) (by decide), updf2]
    have e : upd f x (f x ||| orAll g ((bl s).take i)) x ||| g a = f x ||| orAll g ((bl s).take i ++ [a]) := by
      unfold upd; rw [if_pos rfl]
      unfold orAll
      rw [List.foldl_append, List.foldl_cons, List.foldl_nil, Nat.or_assoc]
    rw [e]) (by
    unfold R39L0
    dsimp only
    rw [show Ar.std.zlt ((bl s).length : Int) (Ar.std.len (eInt (cNs (bl s)))) = false from by rw [eIc_len]; exact geN _, cond_false])
  have e0 : upd f x (f x ||| orAll g []) = f := by
    funext j; unfold upd
    by_cases h : j = x
    · rw [if_pos h, h]; simp [orAll]
    · rw [if_neg h]
  rw [e0] at key
  exact key
def part (k : Nat) (f : Nat → Nat) (x : Nat) : Nat := if x < k then f x else 0
theorem part_succ (k : Nat) (f : Nat → Nat) : upd (part k f) k (part k f k ||| f k) = part (k + 1) f := by
  funext j
  unfold upd part
  by_cases h : j = k
  · subst h
    rw [if_pos rfl, if_neg (by omega), if_pos (by omega), Nat.zero_or]
  · rw [if_neg h]
    by_cases h2 : j < k
    · rw [if_pos h2, if_pos (by omega)]
    · rw [if_neg h2, if_neg (by omega)]
theorem part_lt {k : Nat} {f : Nat → Nat} (h : ∀ i, f i < 64) (i : Nat) : part k f i < 64 := by
  unfold part; split
  · exact h i
  · decide
theorem R39L1_eq {f g : Nat → Nat} (hf : ∀ i, f i < 64) (hg : ∀ i, g i < 64) : iter (R39L1 Ar.std (rU f) (rU g)) (0, rU fun _ => 0) = some (rU (compF f g)) := by
  have key := iter_to (step := R39L1 Ar.std (rU f) (rU g)) 6 (fun i => ((i : Int), rU (part i (compF f g)))) (rU (compF f g)) (fun i hi => by
    unfold R39L1
    dsimp only
    rw [show Ar.std.zlt (i : Int) 6 = true from by rw [std_zlt]; exact decide_eq_true (by omega), cond_true, ckN, bsome, ckL hi, bsome, ix1, rU_spl, rU_gc _ hi, bsome, R76_eq _ (hf i), bsome, R39L0_eq (part_lt (compF_lt hg)) hg hi, bsome, inc (by omega : i < 100) (by decide)]
    have e : part i (compF f g) i ||| orAll g (bl (f i)) = part i (compF f g) i ||| compF f g i := rfl
    rw [e, part_succ]) (by
    unfold R39L1
    dsimp only
    rw [show Ar.std.zlt ((6 : Nat) : Int) 6 = false from rfl, cond_false]
    rw [rU_congr (f := part 6 (compF f g)) (g := compF f g) fun i hi => by unfold part; rw [if_pos hi]])
  exact key
def cmpd (r s : List P2) : List P2 × Int := bif isRel 6 6 r && isRel 6 6 s then (prs 6 (compF (relF r) (relF s)), 0) else ([], 2)
theorem relF_lt6 {n : Nat} (hn : n ≤ 6) {m : Nat} {r : List P2} (h : isRel m n r = true) : ∀ i, relF r i < 64 := relF_lt fun p hp => by have := isRel_ok h p hp; omega
theorem R39_eq (r s : List P2) (hr : r.length < Lg) (hs : s.length < Lg) : R39 Ar.std (ePr r) (ePr s) = some (ePr (cmpd r s).1, (cmpd r s).2) := by
  obtain ⟨f, h1, h2⟩ := R85_eq (m := 6) (n := 6) (by decide) (by decide) r hr
  obtain ⟨g, h3, h4⟩ := R85_eq (m := 6) (n := 6) (by decide) (by decide) s hs
  have h1' : R85 Ar.std (ePr r) 6 6 = some (rU f, isRel 6 6 r) := h1
  have h3' : R85 Ar.std (ePr s) 6 6 = some (rU g, isRel 6 6 s) := h3
  unfold R39 cmpd
  rw [h1', bsome]
  dsimp only
  rw [rU_len, bsome, rU_room, bsome, h3', bsome]
  dsimp only
  rw [rU_len, bsome, bsome]
  cases hv : isRel 6 6 r with
  | false => rfl
  | true =>
    cases hv' : isRel 6 6 s with
    | false => rfl
    | true =>
      rw [h2 hv, h4 hv', rU_rep, cond_true, Bool.not_true, bsome, cond_false, R39L1_eq (relF_lt6 (by decide) hv) (relF_lt6 (by decide) hv'), bsome, rU_ga, bsome, R86_eq (compF_lt (relF_lt6 (by decide) hv')), bsome]; rfl
theorem R40L0_eq {s : List P2} (hs : s.length < Lg) {p : P2} {a : Nat} (hp : p.1 = (a : Int)) (ha : a < 6) (hq : ∀ q ∈ s, 0 ≤ q.2 ∧ q.2.toNat < 6) {f : Nat → Nat} (hf : ∀ i, f i < 64) :
    iter (R40L0 Ar.std (ePr s) p.1 p.2) (0, rI 6 f) = some (rI 6 (docC s f p)) := by
  have key := iter_foldI (step := R40L0 Ar.std (ePr s) p.1 p.2) s (fun (S : Nat → Nat) i => ((i : Int), rI 6 S)) (docP p) (rI 6) (fun S => ∀ i, S i < 64) (fun i q S hqi hi hS => by
    have hq' := hq q (List.mem_of_getElem? hqi)
    refine ⟨?_, docP_lt hS hq'.2⟩
    have hget : gt Ar.std cP (ePr s) (i : Int) = some q := gt_enc hqi
    unfold R40L0 docP
    dsimp only
    rw [ltS hi, cond_true, hget, bsome]
    rw [std_zeq, inc hi hs]
    cases decide (p.2 = q.1) with
    | false => rfl
    | true =>
      obtain ⟨b, hb⟩ : ∃ b : Nat, q.2 = (b : Int) := ⟨q.2.toNat, by omega⟩
      have hb6 : b < 6 := by have := hq'.2; rw [hb] at this; simpa using this
      rw [cond_true, cond_true, hp, hb, ckN, bsome, show ck (Ar.std.zlt (a : Int) 6) = some () from ckL' ha, bsome, zaddZ, rI_gc _ ha, bsome, nkN, bsome, bsome, bsome, rI_lget _ ha, bsome, bsome, shlI (by omega), orI (hS a) (pow6 hb6), rI_lset]
      unfold putP
      rfl) (fun S _ => by
    unfold R40L0
    dsimp only
    rw [geS, cond_false]) f hf
  exact key
theorem R40_eq (r s : List P2) (hr : r.length < Lg) (hs : s.length < Lg) : R40 Ar.std (ePr r) (ePr s) = some (ePr (cmpd r s).1, (cmpd r s).2) := by
  have h1 : R87 Ar.std (ePr r) 6 6 = some (isRel 6 6 r) := R87_eq (m := 6) (n := 6) r hr
  have h2 : R87 Ar.std (ePr s) 6 6 = some (isRel 6 6 s) := R87_eq (m := 6) (n := 6) s hs
  unfold R40 cmpd
  rw [h1, bsome]
  cases hv : isRel 6 6 r with
  | false => rfl
  | true =>
    rw [cond_true, h2, bsome]
    cases hv' : isRel 6 6 s with
    | false => rfl
    | true =>
      have ok1 := isRel_ok hv
      have ok2 := isRel_ok hv'
      have key := iter_foldI (step := R40L1 Ar.std (ePr r) (ePr s)) r (fun (S : Nat → Nat) i => ((i : Int), rI 6 S)) (docC s) (rI 6) (fun S => ∀ i, S i < 64) (fun i p S hpi hi hS => by
        have hp' := ok1 p (List.mem_of_getElem? hpi)
        refine ⟨?_, docC_lt hS fun q hq => (ok2 q hq).2.2⟩
        have hget : gt Ar.std cP (ePr r) (i : Int) = some p := gt_enc hpi
        unfold R40L1
        dsimp only
        rw [ltS hi, cond_true, hget, bsome]
        have hL := R40L0_eq hs (p := p) (a := p.1.toNat) (by omega) hp'.1.2 (fun q hq => (ok2 q hq).2) hS
        rw [hL, bsome, inc hi hr]) (fun S _ => by
        unfold R40L1
        dsimp only
        rw [geS, cond_false]) (fun _ => 0) (fun _ => by decide)
      have e0 : Ar.std.rep 6 (.int .i64 0) = rI 6 fun _ => 0 := rI_rep 6
      have key' : iter (R40L1 Ar.std (ePr r) (ePr s)) (0, Ar.std.rep 6 (.int .i64 0)) = some (rI 6 (r.foldl (docC s) fun _ => 0)) := by rw [e0]; exact key
      have hc := comp_same hv hv'
      rw [hc] at key'
      have h88 : R88 Ar.std 0 6 (rI 6 (compF (relF r) (relF s))) = some (ePr (prs 6 (compF (relF r) (relF s)))) := R88_eq (n := 6) (by decide) (compF_lt (relF_lt6 (by decide) hv'))
      rw [Bool.not_true, bsome, cond_false, show ck (Ar.std.zeq 6 6) = some () from rfl, bsome, show ck (Ar.std.zle 0 6) = some () from rfl, bsome, show ck (Ar.std.fits 6) = some () from ck_of (by rw [std_fits]; exact decide_eq_true (by decide)), bsome, key', bsome, h88, bsome]; rfl
theorem R6_ok (r s : List P2) (hr : r.length < Lg) (hs : s.length < Lg) : R6 Ar.std (ePr r) (ePr s) = some true := by
  have hsame := R41_same (cmpd r s).1 (by
    unfold cmpd
    cases isRel 6 6 r && isRel 6 6 s with
    | false => exact (by decide : (0 : Nat) < Lg)
    | true =>
      have := prs_len 6 (compF (relF r) (relF s))
      show (prs 6 (compF (relF r) (relF s))).length < 9223372036854775808
      omega)
  unfold R6
  rw [len_enc, len_enc, std_zlt, std_zlt]
  have hmain : (bif decide ((100 : Int) < r.length) then some true else some (decide ((100 : Int) < s.length))) = some (decide ((100 : Int) < r.length) || decide ((100 : Int) < s.length)) := by
    cases decide ((100 : Int) < r.length) <;> rfl
  rw [hmain, bsome]
  cases (decide ((100 : Int) < r.length) || decide ((100 : Int) < s.length)) with
  | true => rw [cond_true, R17_eq]; rfl
  | false =>
    rw [cond_false, R39_eq r s hr hs, bsome]
    dsimp only
    rw [R40_eq r s hr hs, bsome]
    dsimp only
    rw [hsame, bsome, cond_true, zeqS, cond_true, R17_eq]; rfl
end Go.Am
