/- Own text: HL3. -/
import Derived.Test.YtlpolnmadfmphaaHL1
set_option maxRecDepth 100000
set_option linter.unusedVariables false
set_option linter.unusedSimpArgs false
namespace Go.Am
open Go
def bef (c d : Call) : Bool := decide (c.to ≠ 0) && decide (c.to < d.fr)
def callOk (c : Call) : Bool := btw 0 c.th 3 && (btw 0 c.ob 1 && (btw 0 c.op 3 && (btw 0 c.sa 9 && (btw 1 c.fr 100 && bif decide (c.to = 0) then decide (c.sa = 0) else btw (c.fr + 1) c.to 100))))
def meet (c d : Call) : Bool := (decide (c.fr = d.fr) || (decide (c.fr = d.to) || (decide (c.to = d.fr) || (decide (c.to ≠ 0) && decide (c.to = d.to))))) || (decide (c.th = d.th) && (!bef c d && !bef d c))
def badAt (h : List Call) (i : Nat) : Bool := (h[i]?.map fun c => !callOk c || (h.take i).any (meet c)).getD false
def validH (h : List Call) : Bool := !decide (8 < (h.length : Int)) && !(List.range h.length).any (badAt h)
theorem badAt_get {h : List Call} {i : Nat} {c : Call} (hc : h[i]? = some c) : badAt h i = (!callOk c || (h.take i).any (meet c)) := by simp [badAt, hc]
theorem H68_eq (c d : Call) : H68 Ar.std c.1 c.2.1 c.2.2.1 c.2.2.2.1 c.2.2.2.2.1 c.2.2.2.2.2 d.1 d.2.1 d.2.2.1 d.2.2.2.1 d.2.2.2.2.1 d.2.2.2.2.2 = some (bef c d) := by
  simp only [H68, std_zeq, std_zlt, cond_some, bsome, bef]
  by_cases h : c.2.2.2.2.2 = 0 <;> simp [h]
theorem H70_eq (c d : Call) : H70 Ar.std c.1 c.2.1 c.2.2.1 c.2.2.2.1 c.2.2.2.2.1 c.2.2.2.2.2 d.1 d.2.1 d.2.2.1 d.2.2.2.1 d.2.2.2.2.1 d.2.2.2.2.2 = some (meet c d) := by
  simp only [H70, std_zeq, H68_eq, bsome, cond_some, meet, bif_or, bif_nand, bif_and]
  by_cases h : c.2.2.2.2.2 = 0 <;> simp [h]
theorem H25_eq (h : List Call) (hl : h.length < Lg) : H25 Ar.std (eCalls h) = some (validH h) := by
  have e0 : ∀ i c, h[i]? = some c → i ≤ h.length → iter (H25L0 Ar.std (eCalls h) (i : Int) c.1 c.2.1 c.2.2.1 c.2.2.2.1 c.2.2.2.2.1 c.2.2.2.2.2) 0 = some (bif (h.take i).any (meet c) then .inr () else .inl ()) := by
    intro i c hc hi
    have hlen : (h.take i).length = i := by simp; omega
    have := iter_any (step := H25L0 Ar.std (eCalls h) (i : Int) c.1 c.2.1 c.2.2.1 c.2.2.2.1 c.2.2.2.2.1 c.2.2.2.2.2) (h.take i) (meet c) (.inr ()) (.inl ()) (fun k d hd hk => by
      have hd' : h[k]? = some d := by rw [List.getElem?_take] at hd; split at hd <;> simp_all
      have hk' : k < i := by omega
      simp only [H25L0, std_zlt, ltC hk', cond_true, gt_enc hd', bsome, H70_eq, std_wrp, std_zadd, wrap1 hk' (Nat.lt_of_le_of_lt hi hl)]
      cases meet c d <;> rfl) (by simp [H25L0, hlen])
    exact this
  have e : iter (H25L1 Ar.std (eCalls h)) 0 = some (bif (List.range h.length).any (badAt h) then .inr () else .inl ()) := by
    refine iter_rng h.length _ _ _ (fun i hi => ?_) ?_
    · have hc := List.getElem?_eq_getElem hi
      generalize h[i] = c at hc
      rw [badAt_get hc]
      simp only [H25L1, std_zlt, len_enc, ltC hi, cond_true, gt_enc hc, bsome, H67_eq, std_zeq, std_wrp, std_zadd, wrap1 hi hl, e0 i c hc (by omega), cond_some]
      have hw : btw 1 c.fr 100 = true → IntKind.i64.wrap (c.2.2.2.2.1 + 1) = c.2.2.2.2.1 + 1 := by
        intro hb; rw [btw_true] at hb; exact i64w _ (by simp only [Call.fr] at hb; omega) (by simp only [Call.fr] at hb; omega)
      cases h1 : btw 0 c.1 3 <;> simp only [h1, callOk, cond_true, cond_false, Bool.not_true, Bool.not_false, Bool.true_and, Bool.false_and, Bool.true_or, Call.th] <;> try rfl
      cases h2 : btw 0 c.2.1 1 <;> simp only [h2, cond_true, cond_false, Bool.not_true, Bool.not_false, Bool.true_and, Bool.false_and, Bool.true_or] <;> try rfl
      cases h3 : btw 0 c.2.2.1 3 <;> simp only [h3, cond_true, cond_false, Bool.not_true, Bool.not_false, Bool.true_and, Bool.false_and, Bool.true_or] <;> try rfl
      cases h4 : btw 0 c.2.2.2.1 9 <;> simp only [h4, cond_true, cond_false, Bool.not_true, Bool.not_false, Bool.true_and, Bool.false_and, Bool.true_or] <;> try rfl
      cases h5 : btw 1 c.2.2.2.2.1 100 <;> simp only [h5, cond_true, cond_false, Bool.not_true, Bool.not_false, Bool.true_and, Bool.false_and, Bool.true_or] <;> try rfl
      rw [hw h5]
      by_cases h6 : c.2.2.2.2.2 = 0
      · simp only [h6, decide_true, cond_true]
        cases decide (c.2.2.2.1 = 0) <;> simp only [cond_true, cond_false, Bool.not_true, Bool.not_false, Bool.true_or, Bool.false_or] <;> try rfl
        cases (h.take i).any (meet c) <;> rfl
      · simp only [h6, decide_false, cond_false]
        cases btw (c.2.2.2.2.1 + 1) c.2.2.2.2.2 100 <;> simp only [cond_true, cond_false, Bool.not_true, Bool.not_false, Bool.true_or, Bool.false_or] <;> try rfl
        cases (h.take i).any (meet c) <;> rfl
    · simp [H25L1]
  simp only [H25, std_zlt, len_enc, e, bsome, validH]
  cases decide (8 < (h.length : Int)) <;> simp
end Go.Am
namespace Go.Am
theorem H66_eq (c d : Call) (hc : 0 ≤ c.to) : H66 Ar.std c.1 c.2.1 c.2.2.1 c.2.2.2.1 c.2.2.2.2.1 c.2.2.2.2.2 d.1 d.2.1 d.2.2.1 d.2.2.2.1 d.2.2.2.2.1 d.2.2.2.2.2 = some (bef c d) := by
  simp only [H66, std_zlt, cond_some, bsome, bef, bif_and]
  have : decide (0 < c.2.2.2.2.2) = decide (c.2.2.2.2.2 ≠ 0) := by simp only [Call.to] at hc; rw [decide_eq_decide]; omega
  rw [this]
theorem callOk_iff (c : Call) : callOk c = true ↔ (0 ≤ c.th ∧ c.th ≤ 3) ∧ (0 ≤ c.ob ∧ c.ob ≤ 1) ∧ (0 ≤ c.op ∧ c.op ≤ 3) ∧ (0 ≤ c.sa ∧ c.sa ≤ 9) ∧ (1 ≤ c.fr ∧ c.fr ≤ 100) ∧ ((c.to = 0 ∧ c.sa = 0) ∨ (c.fr < c.to ∧ c.to ≤ 100)) := by
  simp only [callOk, Bool.and_eq_true, btw_true]
  constructor
  · rintro ⟨h1, h2, h3, h4, h5, h6⟩
    refine ⟨h1, h2, h3, h4, h5, ?_⟩
    by_cases h : c.to = 0
    · simp only [h, decide_true, cond_true, decide_eq_true_eq] at h6; exact .inl ⟨h, h6⟩
    · simp only [h, decide_false, cond_false, btw_true] at h6; exact .inr ⟨by omega, h6.2⟩
  · rintro ⟨h1, h2, h3, h4, h5, h6⟩
    refine ⟨h1, h2, h3, h4, h5, ?_⟩
    rcases h6 with ⟨h6, h7⟩ | ⟨h6, h7⟩
    · simp [h6, h7]
    · have : c.to ≠ 0 := by omega
      simp only [this, decide_false, cond_false, btw_true]; omega
theorem H69_eq (c : Call) : H69 Ar.std c.1 c.2.1 c.2.2.1 c.2.2.2.1 c.2.2.2.2.1 c.2.2.2.2.2 = some (callOk c) := by
  simp only [H69, H77_eq, bsome, cond_some, std_zeq, std_zlt, callOk, bif_and]
  by_cases h : c.2.2.2.2.2 = 0
  · simp only [h, decide_true, cond_true]
    cases btw 0 c.1 3 <;> cases btw 0 c.2.1 1 <;> cases btw 0 c.2.2.1 3 <;> cases btw 0 c.2.2.2.1 9 <;> cases btw 1 c.2.2.2.2.1 100 <;> rfl
  · simp only [h, decide_false, cond_false]
    have e : btw 1 c.2.2.2.2.1 100 = true → (btw 2 c.2.2.2.2.2 100 && decide (c.2.2.2.2.1 < c.2.2.2.2.2)) = btw (c.2.2.2.2.1 + 1) c.2.2.2.2.2 100 := by
      intro hb
      rw [btw_true] at hb
      rw [Bool.eq_iff_iff]; simp [btw]; omega
    cases h5 : btw 1 c.2.2.2.2.1 100
    · cases btw 0 c.1 3 <;> cases btw 0 c.2.1 1 <;> cases btw 0 c.2.2.1 3 <;> cases btw 0 c.2.2.2.1 9 <;> rfl
    · rw [e h5]
      cases btw 0 c.1 3 <;> cases btw 0 c.2.1 1 <;> cases btw 0 c.2.2.1 3 <;> cases btw 0 c.2.2.2.1 9 <;> rfl
def tkS (t : List Bool) (c : Call) : List Bool := bif decide (0 < c.to) then (t.set c.fr.toNat true).set c.to.toNat true else t.set c.fr.toNat true
def tkB (pre : List Call) : List Bool := pre.foldl tkS (List.replicate 101 false)
def occ (m : Int) (d : Call) : Bool := decide (d.fr = m) || (decide (0 < d.to) && decide (d.to = m))
theorem tkB_snoc (pre : List Call) (c : Call) : tkB (pre ++ [c]) = tkS (tkB pre) c := by simp [tkB]
theorem tkB_get : ∀ (pre : List Call), (∀ d ∈ pre, callOk d = true) → (tkB pre).length = 101 ∧ ∀ m : Nat, m ≤ 100 → (tkB pre)[m]? = some (pre.any (occ m)) := by
  intro pre
  induction h : pre.length generalizing pre with
  | zero =>
    intro _
    obtain rfl := List.length_eq_zero_iff.1 h
    refine ⟨rfl, fun m hm => ?_⟩
    show (List.replicate 101 false)[m]? = _
    rw [List.getElem?_replicate, if_pos (by omega)]; rfl
  | succ n ih =>
    intro hok
    obtain ⟨p, c, rfl⟩ : ∃ p c, pre = p ++ [c] := ⟨pre.dropLast, pre.getLast (by intro e; rw [e] at h; cases h), (List.dropLast_concat_getLast _).symm⟩
    obtain ⟨h1, h2⟩ := ih p (by simpa using h) (fun d hd => hok d (by simp [hd]))
    obtain ⟨_, _, _, _, h5, h6⟩ := (callOk_iff c).1 (hok c (by simp))
    rw [tkB_snoc]
    refine ⟨by unfold tkS; cases decide (0 < c.to) <;> simp [h1], fun m hm => ?_⟩
    rw [List.any_append]
    simp only [List.any_cons, List.any_nil, Bool.or_false]
    have hg : ∀ t : List Bool, t.length = 101 → ∀ a : Int, 0 ≤ a → ∀ b, t[m]? = some b → (t.set a.toNat true)[m]? = some (b || decide (a = m)) := by
      intro t ht a ha b hb
      rw [List.getElem?_set]
      by_cases he : a.toNat = m
      · have : a = m := by omega
        simp [he, this, ht]; omega
      · have : ¬ a = m := by omega
        simp [he, this, hb]
    unfold tkS occ
    by_cases hto : 0 < c.to
    · simp only [hto, decide_true, cond_true, Bool.true_and]
      rw [hg _ (by simp [h1]) _ (by omega) _ (hg _ h1 _ (by omega) _ (h2 m hm))]
      simp only [Bool.or_assoc]; rfl
    · simp only [hto, decide_false, cond_false, Bool.false_and, Bool.or_false]
      exact hg _ h1 _ (by omega) _ (h2 m hm)
def over (c d : Call) : Bool := decide (c.th = d.th) && (!bef c d && !bef d c)
theorem meet_any {c : Call} (hc : callOk c = true) (pre : List Call) (hp : ∀ d ∈ pre, callOk d = true) : pre.any (meet c) = ((pre.any (occ c.fr) || (decide (0 < c.to) && pre.any (occ c.to))) || pre.any (over c)) := by
  rw [← any_andC, ← any_orB, ← any_orB]
  refine any_congr fun d hd => ?_
  obtain ⟨_, _, _, _, c5, c6⟩ := (callOk_iff c).1 hc
  obtain ⟨_, _, _, _, d5, d6⟩ := (callOk_iff d).1 (hp d hd)
  unfold meet occ over
  congr 1
  rw [Bool.eq_iff_iff]
  simp only [Bool.or_eq_true, Bool.and_eq_true, decide_eq_true_eq]
  omega
theorem H24_eq (h : List Call) (hl : h.length < Lg) : H24 Ar.std (eCalls h) = some (validH h) := by
  have hok : ∀ i, i ≤ h.length → (∀ j, j < i → badAt h j = false) → ∀ d ∈ h.take i, callOk d = true := by
    intro i hi hb d hd
    obtain ⟨j, hj, rfl⟩ := List.getElem_of_mem hd
    have hj1 : j < i ∧ j < h.length := by simp at hj; omega
    have := hb j hj1.1
    rw [badAt_get (List.getElem?_eq_getElem hj1.2), Bool.or_eq_false_iff] at this
    rw [List.getElem_take]
    simpa using this.1
  have e0 : ∀ i c, h[i]? = some c → callOk c = true → i ≤ h.length → (∀ j, j < i → badAt h j = false) → iter (H24L0 Ar.std c.1 c.2.1 c.2.2.1 c.2.2.2.1 c.2.2.2.2.1 c.2.2.2.2.2 (eCalls (h.take i))) 0 = some (bif (h.take i).any (over c) then .inr () else .inl ()) := by
    intro i c hc hcok hi hb
    have hlen : (h.take i).length = i := by simp; omega
    refine iter_any (h.take i) _ _ _ (fun k d hd hk => ?_) (by simp [H24L0])
    have hlt : (h.take i).length < 9223372036854775808 := Nat.lt_of_le_of_lt (by rw [hlen]; exact hi) hl
    have hdok := hok i hi hb d (List.mem_of_getElem? hd)
    obtain ⟨_, _, _, _, c5, c6⟩ := (callOk_iff c).1 hcok
    obtain ⟨_, _, _, _, d5, d6⟩ := (callOk_iff d).1 hdok
    simp only [H24L0, std_zlt, len_enc, ltC hk, cond_true, gt_enc hd, bsome, std_zeq, H66_eq c d (by omega), H66_eq d c (by omega), cond_some, std_wrp, std_zadd, wrap1 hk hlt, over, Call.th, bif_nand, bif_and]
  have hstop := iter_stop (step := H24L1 Ar.std (eCalls h)) h.length (fun i => ((i : Int), enc cB (tkB (h.take i)))) (badAt h) (enc cB (tkB (h.take h.length))) (fun i hi hb => ?_) (fun hb => by simp [H24L1])
  · unfold H24
    simp only [std_zlt, len_enc, validH]
    have e1 : (0, Ar.std.rep (Int.ofNat 101) (D.bool false)) = ((0 : Int), enc cB (tkB (h.take 0))) := by
      rw [show (D.bool false) = cB.en false from rfl, enc_rep]; simp [tkB]
    simp only [e1]
    have z : ((0 : Nat) : Int) = 0 := rfl
    rcases hstop with ⟨h1, _, h3⟩ | ⟨h1, x, h3⟩
    · rw [show ((0 : Int), enc cB (tkB (h.take 0))) = (((0 : Nat) : Int), enc cB (tkB (h.take 0))) from rfl, h3, h1]
      cases decide (8 < (h.length : Int)) <;> rfl
    · rw [show ((0 : Int), enc cB (tkB (h.take 0))) = (((0 : Nat) : Int), enc cB (tkB (h.take 0))) from rfl, h3, h1]
      cases decide (8 < (h.length : Int)) <;> rfl
  · have hc := List.getElem?_eq_getElem hi
    generalize h[i] = c at hc
    have hpre := hok i (by omega) hb
    obtain ⟨t1, t2⟩ := tkB_get _ hpre
    rw [badAt_get hc]
    simp only [H24L1, std_zlt, len_enc, ltC hi, cond_true, gt_enc hc, bsome, H69_eq]
    cases hcok : callOk c with
    | false => simp only [cond_false, bsome, cond_true, Bool.not_false, Bool.true_or]; exact ⟨fun h => (by cases h), fun _ => ⟨_, rfl⟩⟩
    | true =>
      obtain ⟨_, _, _, _, c5, c6⟩ := (callOk_iff c).1 hcok
      have w0 : decide (0 ≤ c.2.2.2.2.1) = true := by simp only [Call.fr] at c5; simp; omega
      have w1 : decide (c.2.2.2.2.1 < Int.ofNat 101) = true := by simp only [Call.fr] at c5; simp; omega
      have ix : Ar.std.nat (Ar.std.zadd 0 (Ar.std.zmul c.2.2.2.2.1 (Int.ofNat 1))) = c.fr.toNat := by simp
      have g1 : gc Ar.std cB (enc cB (tkB (h.take i))) c.fr.toNat = some ((h.take i).any (occ c.fr)) := by
        refine gc_enc ?_
        have := t2 c.fr.toNat (by omega)
        rw [this, show ((c.fr.toNat : Nat) : Int) = c.fr by omega]
      have g2 : Ar.std.lget (enc cB (tkB (h.take i))) c.fr.toNat = some (cB.en ((h.take i).any (occ c.fr))) := by
        rw [std_lget, enc_get]
        have := t2 c.fr.toNat (by omega)
        rw [this, show ((c.fr.toNat : Nat) : Int) = c.fr by omega]; rfl
      have hset : ∀ (l : List Bool) (a : Nat), Ar.std.lset (enc cB l) a (D.bool true) = enc cB (l.set a true) := fun l a => enc_set l a true
      rw [meet_any hcok _ hpre]
      simp only [cond_true, std_zle, std_zlt, w0, w1, ck_true, bsome, ix, g1, g2, Bool.not_true, Bool.false_or, hset]
      cases hA : (h.take i).any (occ c.fr) with
      | true => simp only [cond_true, Bool.true_or]; exact ⟨fun h => (by cases h), fun _ => ⟨_, rfl⟩⟩
      | false =>
        simp only [cond_false, jn, Bool.false_or]
        have hin := e0 i c hc hcok (by omega) hb
        have tk1 : tkB (h.take (i + 1)) = tkS (tkB (h.take i)) c := by rw [take_succ_get hc, tkB_snoc]
        by_cases hto : 0 < c.2.2.2.2.2
        · have ix2 : Ar.std.nat (Ar.std.zadd 0 (Ar.std.zmul c.2.2.2.2.2 (Int.ofNat 1))) = c.to.toNat := by simp
          have v0 : decide (0 ≤ c.2.2.2.2.2) = true := by simp; omega
          have v1 : decide (c.2.2.2.2.2 < Int.ofNat 101) = true := by simp only [Call.to] at c6; simp; omega
          have hne : ¬ c.fr.toNat = c.to.toNat := by simp only [Call.to, Call.fr] at *; omega
          have hget : ((tkB (h.take i)).set c.fr.toNat true)[c.to.toNat]? = some ((h.take i).any (occ c.to)) := by
            rw [List.getElem?_set, if_neg hne]
            have := t2 c.to.toNat (by simp only [Call.to] at *; omega)
            rw [this, show ((c.to.toNat : Nat) : Int) = c.to by simp only [Call.to] at *; omega]
          have g3 : gc Ar.std cB (enc cB ((tkB (h.take i)).set c.fr.toNat true)) c.to.toNat = some ((h.take i).any (occ c.to)) := gc_enc hget
          have g4 : Ar.std.lget (enc cB ((tkB (h.take i)).set c.fr.toNat true)) c.to.toNat = some (cB.en ((h.take i).any (occ c.to))) := by
            rw [std_lget, enc_get, hget]; rfl
          have hS : tkS (tkB (h.take i)) c = ((tkB (h.take i)).set c.fr.toNat true).set c.to.toNat true := by simp only [tkS, Call.to, hto, decide_true, cond_true]
          simp only [hto, decide_true, cond_true, v0, v1, ck_true, bsome, ix2, g3, g4, Bool.true_and, hset]
          cases hB : (h.take i).any (occ c.to) with
          | true => simp only [cond_true, Bool.true_or]; exact ⟨fun h => (by cases h), fun _ => ⟨_, rfl⟩⟩
          | false =>
            simp only [cond_false, Bool.false_or, sl_encT (Nat.le_of_lt hi), bsome, hin, tk1, hS]
            cases hC : (h.take i).any (over c) with
            | true => exact ⟨fun h => (by cases h), fun _ => ⟨_, rfl⟩⟩
            | false =>
              refine ⟨fun _ => ?_, fun h => (by cases h)⟩
              simp only [cond_false, Sum.elim_inl, std_wrp, std_zadd, wrap1 hi hl]
        · have hS : tkS (tkB (h.take i)) c = ((tkB (h.take i)).set c.fr.toNat true) := by simp only [tkS, Call.to, hto, decide_false, cond_false]
          simp only [hto, decide_false, cond_false, Bool.false_and, Bool.false_or, sl_encT (Nat.le_of_lt hi), bsome, hin, tk1, hS]
          cases hC : (h.take i).any (over c) with
          | true => exact ⟨fun h => (by cases h), fun _ => ⟨_, rfl⟩⟩
          | false =>
            refine ⟨fun _ => ?_, fun h => (by cases h)⟩
            simp only [cond_false, Sum.elim_inl, std_wrp, std_zadd, wrap1 hi hl]
end Go.Am

set_option maxRecDepth 100000
set_option linter.unusedVariables false
set_option linter.unusedSimpArgs false
namespace Go.Am
open Go
def areS (l : List Spec) : Bool := btw 1 l.length 2 && l.all specOk
def fitC (l : List Spec) (c : Call) : Bool := (l[c.ob.toNat]?.map fun s => decide (c.op < s.2.1)).getD false
def forH (l : List Spec) (h : List Call) : Bool := validH h && h.all (fitC l)
def errH (l : List Spec) (h : List Call) : Int := bif areS l then (bif forH l h then 0 else 20) else 10
theorem validH_iff (h : List Call) : validH h = true ↔ h.length ≤ 8 ∧ ∀ i c, h[i]? = some c → callOk c = true ∧ ∀ d ∈ h.take i, meet c d = false := by
  simp only [validH, Bool.and_eq_true, Bool.not_eq_true', decide_eq_false_iff_not, List.any_eq_false, List.mem_range]
  constructor
  · rintro ⟨h1, h2⟩
    refine ⟨by omega, fun i c hc => ?_⟩
    have := h2 i (List.getElem?_eq_some_iff.1 hc).1
    rw [badAt_get hc] at this
    simp only [Bool.or_eq_true, not_or, Bool.not_eq_true, Bool.not_eq_false', List.any_eq_false] at this
    exact ⟨this.1, fun d hd => by simpa using this.2 d hd⟩
  · rintro ⟨h1, h2⟩
    refine ⟨by omega, fun i hi => ?_⟩
    have hc := List.getElem?_eq_getElem hi
    obtain ⟨q1, q2⟩ := h2 i _ hc
    rw [badAt_get hc]
    simp only [q1, Bool.not_true, Bool.false_or, List.any_eq_true, not_exists, not_and, Bool.not_eq_true]
    exact q2
theorem validH_ok {h : List Call} (hv : validH h = true) : h.length ≤ 8 ∧ ∀ c ∈ h, callOk c = true := by
  obtain ⟨h1, h2⟩ := (validH_iff h).1 hv
  refine ⟨h1, fun c hc => ?_⟩
  obtain ⟨i, hi, rfl⟩ := List.getElem_of_mem hc
  exact (h2 i _ (List.getElem?_eq_getElem hi)).1
theorem H113_eq (l : List Spec) (c : Call) (hc : 0 ≤ c.ob) : H113 Ar.std c.1 c.2.1 c.2.2.1 c.2.2.2.1 c.2.2.2.2.1 c.2.2.2.2.2 (eSpecs l) = some (!fitC l c) := by
  simp only [H113, std_zle, len_eSpecs, fitC]
  by_cases h : (l.length : Int) ≤ c.2.1
  · have : l[c.2.1.toNat]? = none := by rw [List.getElem?_eq_none_iff]; omega
    simp [h, Call.ob, this]
  · have hlt : c.2.1.toNat < l.length := by simp only [Call.ob] at hc; omega
    have hg := List.getElem?_eq_getElem hlt
    simp only [h, decide_false, cond_false, gt_eSpecsI hc hg, bsome, Call.ob, hg, Option.map_some, Option.getD_some, Call.op]
    congr 1
    rw [Bool.eq_iff_iff]; simp
theorem H59_eq (l : List Spec) (h : List Call) (hl : h.length < Lg) (hc : ∀ c ∈ h, 0 ≤ c.ob) : H59 Ar.std (eSpecs l) (eCalls h) = some (h.all (fitC l)) := by
  have e : iter (H122L0 Ar.std (eCalls h) (eSpecs l)) 0 = some ((h.findIdx? fun c => !fitC l c).elim (.inl ()) (fun i => .inr (i : Int))) := by
    refine iter_find h _ _ _ (fun i c hn hi => ?_) ?_
    · simp [H122L0, H113_eq l c (hc c (List.mem_of_getElem? hn)), gt_enc hn, hi, wrap1 hi hl]
    · simp [H122L0]
  simp only [H59, H112, H122, e, bsome, find_elim, std_zle, find_le, any_notB, Bool.not_not]
theorem H20_eq (l : List Spec) (h : List Call) (hs : SpecsOk l) (hl : h.length < Lg) : H20 Ar.std (eSpecs l) (eCalls h) = some (bif areS l then (forH l h, 0) else (false, 10)) := by
  simp only [H20, H58_eq l hs, bsome, H24_eq h hl, areS, forH]
  cases hv : validH h with
  | false => simp
  | true =>
    have := H59_eq l h hl (fun c hc => by have := (callOk_iff c).1 ((validH_ok hv).2 c hc); omega)
    simp [this]
theorem H71_eq (l : List Spec) (h : List Call) (hs : SpecsOk l) (hl : h.length < Lg) : H71 Ar.std (eSpecs l) (eCalls h) = some (errH l h) := by
  simp only [H71, H20_eq l h hs hl, bsome, errH]
  cases areS l <;> cases forH l h <;> simp
theorem H61_eq (l : List Spec) (h : List Call) (hs : SpecsOk l) (hl : h.length < Lg) : H61 Ar.std (eSpecs l) (eCalls h) = some (areS l && forH l h) := by
  simp only [H61, H60_eq l hs, bsome, H25_eq h hl, areS, forH]
  cases ha : btw 1 (l.length : Int) 2 && l.all specOk with
  | false => simp
  | true =>
    cases hv : validH h with
    | false => simp
    | true =>
      have e : iter (H61L0 Ar.std (eSpecs l) (eCalls h)) 0 = some (bif (h.any fun c => !fitC l c) then .inr () else .inl ()) := by
        refine iter_any h _ _ _ (fun i c hc hi => ?_) ?_
        · have hob : 0 ≤ c.ob := by have := (callOk_iff c).1 ((validH_ok hv).2 c (List.mem_of_getElem? hc)); omega
          simp only [H61L0, std_zlt, std_zle, len_eSpecs, len_enc, ltC hi, cond_true, gt_enc hc, bsome, std_wrp, std_zadd, wrap1 hi hl, fitC]
          by_cases hle : (l.length : Int) ≤ c.2.1
          · have : l[c.2.1.toNat]? = none := by rw [List.getElem?_eq_none_iff]; omega
            simp [hle, Call.ob, this]
          · have hlt : c.2.1.toNat < l.length := by simp only [Call.ob] at hob; omega
            have hg := List.getElem?_eq_getElem hlt
            simp only [List.length_map, hle, decide_false, cond_false, gt_eSpecsI hob hg, bsome, Call.ob, hg, Option.map_some, Option.getD_some, Call.op]
            by_cases hq : c.2.2.1 < l[c.2.1.toNat].2.1
            · have : ¬ l[c.2.1.toNat].2.1 ≤ c.2.2.1 := by omega
              simp [hq, this]
            · have : l[c.2.1.toNat].2.1 ≤ c.2.2.1 := by omega
              simp [hq, this]
        · simp [H61L0]
      simp only [bsome, cond_true, cond_false, Bool.not_true, e, Bool.true_and, any_notB]
      cases h.all (fitC l) <;> rfl
theorem H21_eq (l : List Spec) (h : List Call) (hs : SpecsOk l) (hl : h.length < Lg) : H21 Ar.std (eSpecs l) (eCalls h) = some (bif areS l then (forH l h, 0) else (false, 10)) := by
  simp only [H21, H60_eq l hs, bsome, H61_eq l h hs hl]
  cases ha : areS l <;> simp only [areS] at ha <;> simp [ha]
theorem H75_eq (l : List Spec) (h : List Call) (hs : SpecsOk l) (hl : h.length < Lg) : H75 Ar.std (eSpecs l) (eCalls h) = some (errH l h) := by
  simp only [H75, H60_eq l hs, bsome, H61_eq l h hs hl, errH]
  cases ha : areS l <;> simp only [areS] at ha <;> simp [ha]
theorem H64_eq (h : List Call) (hl : h.length < Lg) (i : Int) : H64 Ar.std (eCalls h) i = some (btw 0 i ((h.length : Int) - 1)) := by
  have : (h.length : Int) < 9223372036854775808 := by have : h.length < 9223372036854775808 := hl; omega
  simp only [H64, H77_eq, bsome, len_enc, std_wrp, std_zsub, wrapS (x := (h.length : Int)) (by omega) this]
theorem btwGet {h : List Call} {i : Int} (hb : btw 0 i ((h.length : Int) - 1) = true) : ∃ c, h[i.toNat]? = some c ∧ 0 ≤ i := by
  rw [btw_true] at hb
  have : i.toNat < h.length := by omega
  exact ⟨_, List.getElem?_eq_getElem this, hb.1⟩
end Go.Am
