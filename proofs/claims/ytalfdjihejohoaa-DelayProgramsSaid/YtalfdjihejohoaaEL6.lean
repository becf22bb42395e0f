/- Own text: EL6. -/
import Derived.Test.YtalfdjihejohoaaEL2
import Derived.Test.YtalfdjihejohoaaGenp0
set_option maxRecDepth 100000
set_option linter.unusedVariables false
set_option linter.unusedSimpArgs false
set_option linter.unusedSectionVars false
namespace Go.Am
open Go Go.Proofs
abbrev codF : Cod Fen := cG (lc (cI .i64) (l1 (cI .i64)))
theorem un_fen (a : Fen) : codF.un (dFen a) = some a := by simp [dFen, I]
theorem gt_fen {l : List Fen} {i : Nat} {a : Fen} (h : l[i]? = some a) : gt Ar.std codF (l.map dFen) (i : Int) = some a := by rw [gt_at h, un_fen]
theorem incF {i n : Nat} (h : i < n) (hn : n < 9223372036854775808) : Ar.std.wrp .i64 (Ar.std.zadd (i : Int) 1) = ((i + 1 : Nat) : Int) := i64w1 h hn
section
variable {x : List (List Acc)} {c : List (List Int)} {q : List Sta} (hS : Small x ∧ (stations x).length ≤ 4000000000) (hm : (fencesL x).length ≤ 61) (hc : CostOk c) (hp : pricedB x c = true)
    (hq : q.length ≤ 1000000000) (hall : enoughF (fencesL x) q = true)
include hS hm hc hp hq hall
end
end Go.Am

set_option maxRecDepth 100000
set_option linter.unusedVariables false
set_option linter.unusedSimpArgs false
set_option linter.unusedSectionVars false
namespace Go.Am
open Go Go.Proofs
theorem valid_rows {x : List (List Acc)} (hv : valid x = true) : 1 ≤ x.length ∧ x.length ≤ 3 ∧ ∀ l ∈ x, l.length ≤ 4 := by
  unfold valid at hv
  simp only [Bool.and_eq_true, Bool.not_eq_true', decide_eq_true_eq] at hv
  refine ⟨by omega, by omega, fun l hl => ?_⟩
  have := List.any_eq_false.1 hv.2 l hl
  unfold badL at this
  simp only [Bool.or_eq_true, decide_eq_true_eq, not_or] at this
  omega
theorem valid_bg {x : List (List Acc)} (hv : valid x = true) : Big x := by
  obtain ⟨_, h2, h3⟩ := valid_rows hv
  exact ⟨by omega, fun l hl => by have := h3 l hl; omega⟩
theorem gtI1 {l : List Int} {i : Nat} {a : Int} (h : l[i]? = some a) : gt Ar.std (cI .i64) (l.map I) (i : Int) = some a := by rw [gt_at h]; simp [I]
theorem gt_acc {l : List (List Acc)} {i : Nat} {a : List Acc} (h : l[i]? = some a) : gt Ar.std (cL 2) (l.map dAccs) (i : Int) = some (a.map dAcc) := by rw [gt_at h]; simp [dAccs]
theorem ltM {α : Type} {f : α → D} {l : List α} {i : Nat} (h : i < l.length) : Ar.std.zlt (i : Int) (Ar.std.len (l.map f)) = true := by simp; omega
theorem geM {α : Type} {f : α → D} {l : List α} : Ar.std.zlt (l.length : Int) (Ar.std.len (l.map f)) = false := by simp
section
variable {x : List (List Acc)} {c : List (List Int)} {l : List Int} (ht : threadsB x.length l = true) (hp : pricedB x c = true)
include ht hp
end
end Go.Am

set_option maxRecDepth 100000
set_option linter.unusedVariables false
set_option linter.unusedSimpArgs false
set_option linter.unusedSectionVars false
namespace Go.Am
open Go Go.Proofs
abbrev dOps (l : List Sta) : D := .list 3 (l.map dSta)
abbrev codT : Cod Sta := cG (lc (cI .i64) (lc (cI .i64) (l1 (cI .i64))))
theorem un_sta (a : Sta) : codT.un (dSta a) = some a := by simp [dSta, I]
theorem gt_sta {l : List Sta} {i : Nat} {a : Sta} (h : l[i]? = some a) : gt Ar.std codT (l.map dSta) (i : Int) = some a := by rw [gt_at h, un_sta]
theorem gt_ops {l : List (List Sta)} {i : Nat} {a : List Sta} (h : l[i]? = some a) : gt Ar.std (cL 3) (l.map dOps) (i : Int) = some (a.map dSta) := by rw [gt_at h]; simp
abbrev codA : Cod Acc := cG (lc (cI .i64) (l1 cB))
theorem un_acc (a : Acc) : codA.un (dAcc a) = some a := by simp [dAcc, I]
theorem gt_ac {l : List Acc} {i : Nat} {a : Acc} (h : l[i]? = some a) : gt Ar.std codA (l.map dAcc) (i : Int) = some a := by rw [gt_at h, un_acc]
theorem E46_self (p : List (List Sta)) (hp : p.length < 9223372036854775808) (hr : ∀ r ∈ p, r.length < 9223372036854775808) : E46 Ar.std (p.map dOps) (p.map dOps) = some true := by
  have e0 : ∀ r : List Sta, r.length < 9223372036854775808 → iter (E46L0 Ar.std (r.map dSta) (r.map dSta)) 0 = some (.inl ()) := fun r hr => by
    refine iter_to (step := E46L0 Ar.std (r.map dSta) (r.map dSta)) r.length (fun i => (i : Int)) (.inl ()) (fun i hi => ?_) ?_
    · have ha := List.getElem?_eq_getElem hi
      have hd : ∀ a : Sta, Ar.std.deq [.int .i64 a.1, .int .i64 a.2.1, .int .i64 a.2.2] [.int .i64 a.1, .int .i64 a.2.1, .int .i64 a.2.2] = true := fun a => by simp
      unfold E46L0
      try dsimp only
      rw [ltM hi, cond_true, gt_sta ha, bsome]
      try dsimp only
      rw [bsome]
      try dsimp only
      rw [hd, cond_true, incF hi hr]
    · unfold E46L0
      try dsimp only
      rw [geM, cond_false]
  have e1 : iter (E46L1 Ar.std (p.map dOps) (p.map dOps)) 0 = some (.inl ()) := by
    refine iter_to (step := E46L1 Ar.std (p.map dOps) (p.map dOps)) p.length (fun i => (i : Int)) (.inl ()) (fun i hi => ?_) ?_
    · have ha := List.getElem?_eq_getElem hi
      have hz : ∀ n : Int, Ar.std.zeq n n = true := fun n => by simp
      unfold E46L1
      try dsimp only
      rw [ltM hi, cond_true, gt_ops ha, bsome, bsome, hz, cond_true, e0 _ (hr _ (List.getElem_mem hi)), bsome, Sum.elim_inl, incF hi hp]
    · unfold E46L1
      try dsimp only
      rw [geM, cond_false]
  have hz : ∀ n : Int, Ar.std.zeq n n = true := fun n => by simp
  unfold E46
  rw [hz, cond_true, e1]; rfl
theorem E47L0_eq (r : List Acc) (hr : r.length ≤ 1000) : iter (E47L0 Ar.std (r.map dAcc)) ([], Ar.std.wrp .i64 (Ar.std.zsub (Ar.std.len (r.map dAcc)) 1)) = some (r.reverse.map dAcc) := by
  have key := iter_to (step := E47L0 Ar.std (r.map dAcc)) r.length (fun k => ((r.reverse.take k).map dAcc, (r.length : Int) - 1 - (k : Int))) (r.reverse.map dAcc) (fun k hk => by
    have hlt : r.length - 1 - k < r.length := by omega
    have ha := List.getElem?_eq_getElem hlt
    have hrev : r.reverse[k]? = some r[r.length - 1 - k] := by rw [List.getElem?_reverse hk, ha]
    have hi : (r.length : Int) - 1 - (k : Int) = ((r.length - 1 - k : Nat) : Int) := by omega
    have hz : Ar.std.zle 0 ((r.length - 1 - k : Nat) : Int) = true := by simp
    have hw : Ar.std.wrp .i64 (Ar.std.zsub ((r.length - 1 - k : Nat) : Int) 1) = (r.length : Int) - 1 - ((k + 1 : Nat) : Int) := by
      rw [std_wrp, std_zsub, i64w _ (by omega) (by omega)]; omega
    have hle : (r.reverse.take k).length ≤ 1000 := by simp; omega
    generalize r[r.length - 1 - k] = a at *
    have hap : ap Ar.std ((r.reverse.take k).map dAcc) [.agg [.int .i64 a.1, .bool a.2]] = some ((r.reverse.take k ++ [a]).map dAcc) := ap_one dAcc _ a _ rfl (by omega)
    unfold E47L0
    try dsimp only
    rw [hi, hz, cond_true, gt_ac ha, bsome]
    try dsimp only
    rw [hap, bsome, hw, take_succ_get hrev]) (by
    have hz : Ar.std.zle 0 ((r.length : Int) - 1 - (r.length : Int)) = false := by rw [std_zle]; exact decide_eq_false (by omega)
    have ht : r.reverse.take r.length = r.reverse := by rw [List.take_of_length_le (by simp)]
    unfold E47L0
    try dsimp only
    rw [hz, cond_false, ht])
  have hw : Ar.std.wrp .i64 (Ar.std.zsub (Ar.std.len (r.map dAcc)) 1) = (r.length : Int) - 1 - ((0 : Nat) : Int) := by
    rw [std_wrp, std_zsub, std_len, List.length_map, i64w _ (by omega) (by omega)]; omega
  rw [hw]
  exact key
theorem E47_eq (x : List (List Acc)) (hx : Big x) : E47 Ar.std (x.map dAccs) = some (if valid x then ((turned x).map dAccs, 0) else ([], 90)) := by
  have e14 : E14 Ar.std (x.map dAccs) = some (valid x) := by unfold E14 ofX; rw [dec_eq dAccs_inj hx]; rfl
  unfold E47
  rw [e14, bsome]
  cases hv : valid x with
  | false => rfl
  | true =>
    obtain ⟨h1, h2, h3⟩ := valid_rows hv
    have key := iter_pre (step := E47L1 Ar.std (x.map dAccs)) x (fun pre => turned pre) (fun s k => (s.map dAccs, (k : Int))) (fun s => s.map dAccs)
      (fun i a ha hi => by
        have hle : (turned (x.take i)).length ≤ 1000 := by unfold turned; simp; omega
        have hap : ap Ar.std ((turned (x.take i)).map dAccs) [.list 2 (a.reverse.map dAcc)] = some ((turned (x.take i) ++ [a.reverse]).map dAccs) := ap_one dAccs _ _ _ rfl (by omega)
        have hre : turned (x.take i ++ [a]) = turned (x.take i) ++ [a.reverse] := by unfold turned; simp
        unfold E47L1
        try dsimp only
        rw [ltM hi, cond_true, gt_acc ha, bsome, E47L0_eq a (by have := h3 a (List.mem_of_getElem? ha); omega), bsome, hap, bsome, incF hi (by omega), hre])
      (by
        unfold E47L1
        try dsimp only
        rw [geM, cond_false])
    rw [cond_true, show (([] : List D), (0 : Int)) = ((turned ([] : List (List Acc))).map dAccs, ((0 : Nat) : Int)) from rfl, key]; rfl
theorem E49_eq (x : List (List Acc)) (l : List Int) (hx : Big x) (hl : l.length ≤ 9223372036854775807) : E49 Ar.std (x.map dAccs) (l.map I) = some ((renT x l).1.map dAccs, (renT x l).2) := by
  have e14 : E14 Ar.std (x.map dAccs) = some (valid x) := by unfold E14 ofX; rw [dec_eq dAccs_inj hx]; rfl
  unfold E49 renT
  rw [e14, bsome]
  cases hv : valid x with
  | false => rfl
  | true =>
    obtain ⟨h1, h2, h3⟩ := valid_rows hv
    have e51 : E51 Ar.std (Ar.std.len (x.map dAccs)) (l.map I) = some (threadsB x.length l) := by
      unfold E51 ofI
      rw [std_len, List.length_map, if_pos (by omega), dec_eq I_inj (show LenOk 9223372036854775807 l from hl), Int.toNat_natCast]; rfl
    rw [cond_true, e51, bsome, if_pos rfl]
    cases ht : threadsB x.length l with
    | false => rfl
    | true =>
      have hll := threads_len ht
      have key := iter_pre (step := E49L0 Ar.std (x.map dAccs) (l.map I)) l (fun pre => renamed x pre) (fun s k => (s.map dAccs, (k : Int))) (fun s => s.map dAccs)
        (fun i a ha hi => by
          have hat := threads_at ht i hi
          have hai : l.getD i 0 = a := by rw [List.getD_eq_getElem?_getD, ha]; rfl
          rw [hai] at hat
          have hlt : a.toNat < x.length := by omega
          have hxa := List.getElem?_eq_getElem hlt
          have hrow := h3 _ (List.getElem_mem hlt)
          have hg : gt Ar.std (cL 2) (x.map dAccs) a = some (x[a.toNat].map dAcc) := by
            have := gt_acc hxa
            rwa [show ((a.toNat : Nat) : Int) = a by omega] at this
          have hre : renamed x (l.take i ++ [a]) = renamed x (l.take i) ++ [x[a.toNat]] := by
            unfold renamed
            rw [List.map_append, List.map_cons, List.map_nil, List.getD_eq_getElem?_getD, hxa]; rfl
          generalize x[a.toNat] = row at *
          have hle : (renamed x (l.take i)).length ≤ 1000 := by unfold renamed; simp; omega
          have hap0 : ap Ar.std [] (row.map dAcc) = some (row.map dAcc) := by
            have := ap_std (l := []) (m := row.map dAcc) (by simp; omega)
            simpa using this
          have hap : ap Ar.std ((renamed x (l.take i)).map dAccs) [.list 2 (row.map dAcc)] = some ((renamed x (l.take i) ++ [row]).map dAccs) := ap_one dAccs _ _ _ rfl (by omega)
          unfold E49L0
          try dsimp only
          rw [ltM hi, cond_true, gtI1 ha, bsome, hg, bsome, hap0, bsome, hap, bsome, incF hi (by omega), hre])
        (by
          unfold E49L0
          try dsimp only
          rw [geM, cond_false])
      rw [cond_true, show (([] : List D), (0 : Int)) = ((renamed x []).map dAccs, ((0 : Nat) : Int)) from rfl, key]; rfl
end Go.Am

set_option maxRecDepth 100000
set_option linter.unusedVariables false
set_option linter.unusedSimpArgs false
set_option linter.unusedSectionVars false
namespace Go.Am
open Go Go.Proofs
def opStep (F : List Fen) (t : Int) (s : Int × List Sta) (a : Acc) (i : Nat) : Int × List Sta :=
  (bif a.2 then s.1 + 1 else s.1, s.2 ++ [bif a.2 then (2, a.1, Int.tmod s.1 3 + 1) else (1, a.1, 0)] ++ (bif F.contains (t, (i : Int)) then [(3, 0, 0)] else []))
def rowP (F : List Fen) (t : Int) (n : Int) (r : List Acc) : Int × List Sta := r.zipIdx.foldl (fun s p => opStep F t s p.1 p.2) (n, [])
def progP (F : List Fen) (x : List (List Acc)) : Int × List (List Sta) := x.zipIdx.foldl (fun s p => ((rowP F (p.2 : Int) s.1 p.1).1, s.2 ++ [(rowP F (p.2 : Int) s.1 p.1).2])) (0, [])
def total (x : List (List Acc)) : Nat := (x.map List.length).sum
theorem rowP_snoc (F : List Fen) (t n : Int) (r : List Acc) (a : Acc) : rowP F t n (r ++ [a]) = opStep F t (rowP F t n r) a r.length := by
  unfold rowP
  rw [List.zipIdx_append, List.foldl_append]
  simp
theorem progP_snoc (F : List Fen) (x : List (List Acc)) (r : List Acc) : progP F (x ++ [r]) = ((rowP F (x.length : Int) (progP F x).1 r).1, (progP F x).2 ++ [(rowP F (x.length : Int) (progP F x).1 r).2]) := by
  unfold progP
  rw [List.zipIdx_append, List.foldl_append]
  simp
theorem total_snoc (x : List (List Acc)) (r : List Acc) : total (x ++ [r]) = total x + r.length := by simp [total]
theorem rowP_bd (F : List Fen) (t n : Int) (r : List Acc) : n ≤ (rowP F t n r).1 ∧ (rowP F t n r).1 ≤ n + r.length ∧ (rowP F t n r).2.length ≤ 2 * r.length := by
  have key : ∀ (L : List (Acc × Nat)) (s : Int × List Sta), s.1 ≤ (L.foldl (fun s p => opStep F t s p.1 p.2) s).1 ∧ (L.foldl (fun s p => opStep F t s p.1 p.2) s).1 ≤ s.1 + L.length ∧ (L.foldl (fun s p => opStep F t s p.1 p.2) s).2.length ≤ s.2.length + 2 * L.length := by
    intro L
    induction L with
    | nil => intro s; simp
    | cons p L ih =>
      intro s
      rw [List.foldl_cons]
      have h := ih (opStep F t s p.1 p.2)
      have h1 : s.1 ≤ (opStep F t s p.1 p.2).1 ∧ (opStep F t s p.1 p.2).1 ≤ s.1 + 1 ∧ (opStep F t s p.1 p.2).2.length ≤ s.2.length + 2 := by
        unfold opStep
        cases p.1.2 <;> cases F.contains (t, (p.2 : Int)) <;> simp <;> omega
      simp only [List.length_cons]
      omega
  have := key r.zipIdx (n, [])
  simpa [rowP] using this
theorem progP_bd (F : List Fen) : ∀ (x : List (List Acc)), (∀ r ∈ x, r.length ≤ 4) → 0 ≤ (progP F x).1 ∧ (progP F x).1 ≤ 4 * (x.length : Int) ∧ (progP F x).2.length = x.length ∧ ∀ r ∈ (progP F x).2, r.length ≤ 8 := by
  intro x
  induction h : x.length generalizing x with
  | zero =>
    intro _
    obtain rfl := List.length_eq_zero_iff.1 h
    exact ⟨by simp [progP], by simp [progP], rfl, fun r hr => by cases hr⟩
  | succ n ih =>
    intro hr
    obtain ⟨p, c, rfl⟩ : ∃ p c, x = p ++ [c] := ⟨x.dropLast, x.getLast (by intro e; rw [e] at h; cases h), (List.dropLast_concat_getLast _).symm⟩
    have hpl : p.length = n := by simpa using h
    obtain ⟨a1, a2, a3, a4⟩ := ih p hpl (fun r h => hr r (by simp [h]))
    have hc := hr c (by simp)
    obtain ⟨b1, b2, b3⟩ := rowP_bd F (p.length : Int) (progP F p).1 c
    rw [progP_snoc]
    refine ⟨by omega, by dsimp only; omega, by simp [a3], fun r hr => ?_⟩
    rcases List.mem_append.1 hr with hr | hr
    · exact a4 r hr
    · rw [List.mem_singleton] at hr; subst hr; omega
theorem total_le : ∀ (x : List (List Acc)), (∀ r ∈ x, r.length ≤ 4) → total x ≤ 4 * x.length
  | [], _ => by simp [total]
  | r :: x, h => by
    have := total_le x (fun r' h' => h r' (by simp [h']))
    have := h r (by simp)
    simp only [total, List.map_cons, List.sum_cons, List.length_cons] at *
    omega
theorem E96_eq (F : List Fen) (hF : F.length ≤ 1000000000) (a b : Int) : E96 Ar.std (F.map dFen) a b = some (F.contains (a, b)) := by
  unfold E96 ofF; rw [dec_eq dFen_inj (show LenOk 1000000000 F from hF)]; rfl
theorem tmod3 {n : Int} (h : 0 ≤ n) : Ar.std.wrp .i64 (Ar.std.zadd (Ar.std.rem n 3) 1) = Int.tmod n 3 + 1 := by
  have h1 := Int.tmod_nonneg 3 h
  have h2 := Int.tmod_lt_of_pos n (by decide : (0 : Int) < 3)
  rw [std_rem, std_zadd, std_wrp, i64w _ (by omega) (by omega)]
theorem tmod3' {n : Int} (h : 0 ≤ n) : Ar.std.wrp .i64 (Ar.std.zadd 1 (Ar.std.rem n 3)) = Int.tmod n 3 + 1 := by
  have h1 := Int.tmod_nonneg 3 h
  have h2 := Int.tmod_lt_of_pos n (by decide : (0 : Int) < 3)
  rw [std_rem, std_zadd, std_wrp, i64w _ (by omega) (by omega)]; omega
theorem inc62 {n : Int} (h : 0 ≤ n) (h' : n ≤ 1000000) : Ar.std.wrp .i64 (Ar.std.zadd n 1) = n + 1 := by
  rw [std_zadd, std_wrp, i64w _ (by omega) (by omega)]
section
variable (F : List Fen) (hF : F.length ≤ 1000000000)
include hF
theorem E44L0_eq (t : Nat) (n : Int) (hn : 0 ≤ n) (hn' : n ≤ 1000) (r : List Acc) (hr : r.length ≤ 4) : iter (E44L0 Ar.std (F.map dFen) (t : Int) (r.map dAcc)) (n, [], 0) = some ((rowP F t n r).1, (rowP F t n r).2.map dSta) := by
  have key := iter_pre (step := E44L0 Ar.std (F.map dFen) (t : Int) (r.map dAcc)) r (fun pre => rowP F t n pre) (fun s k => (s.1, s.2.map dSta, (k : Int))) (fun s => (s.1, s.2.map dSta))
    (fun i a ha hi => by
      have htk : (r.take i).length = i := by simp; omega
      have hb := rowP_bd F t n (r.take i)
      rw [htk] at hb
      rw [rowP_snoc, htk]
      generalize rowP F (t : Int) n (r.take i) = s at *
      obtain ⟨m, L⟩ := s
      dsimp only at hb ⊢
      have n3 : nk (Ar.std.zeq 3 0) = some () := rfl
      unfold E44L0
      try dsimp only
      rw [ltM hi, cond_true, gt_ac ha, bsome]
      try dsimp only
      rw [E96_eq F hF, incF hi (by omega)]
      unfold opStep
      have fin : ∀ (o : Sta) (m' : Int), ((ap Ar.std (L.map dSta) [.agg [.int .i64 o.1, .int .i64 o.2.1, .int .i64 o.2.2]]).bind fun l132 => (some (F.contains ((t : Int), (i : Int)))).bind fun r137 =>
          (bif r137 then (ap Ar.std l132 [.agg [.int .i64 3, .int .i64 0, .int .i64 0]]).bind fun l139 => some l139 else some l132).bind fun v143 => (some (Sum.inl (m', v143, ((i + 1 : Nat) : Int))) : Option ((Int × List D × Int) ⊕ (Int × List D)))) =
          some (.inl (m', (L ++ [o] ++ (bif F.contains ((t : Int), (i : Int)) then [(3, 0, 0)] else [])).map dSta, ((i + 1 : Nat) : Int))) := fun o m' => by
        have h1 : ap Ar.std (L.map dSta) [.agg [.int .i64 o.1, .int .i64 o.2.1, .int .i64 o.2.2]] = some ((L ++ [o]).map dSta) := ap_one dSta _ o _ rfl (by omega)
        have h2 : ap Ar.std ((L ++ [o]).map dSta) [.agg [.int .i64 3, .int .i64 0, .int .i64 0]] = some ((L ++ [o] ++ [(3, 0, 0)]).map dSta) := ap_one dSta _ (3, 0, 0) _ rfl (by simp; omega)
        rw [h1, bsome, bsome]
        cases F.contains ((t : Int), (i : Int)) with
        | true => rw [cond_true, h2, bsome, bsome, cond_true]
        | false => rw [cond_false, bsome, cond_false, List.append_nil]
      cases a.2 with
      | true =>
        rw [cond_true, n3, bsome, bsome, cond_true, cond_true]
        try dsimp only
        rw [tmod3 (by omega), inc62 (by omega) (by omega)]
        exact fin (2, a.1, Int.tmod m 3 + 1) (m + 1)
      | false =>
        rw [cond_false, bsome, cond_false, cond_false]
        try dsimp only
        exact fin (1, a.1, 0) m)
    (by
      unfold E44L0
      try dsimp only
      rw [geM, cond_false])
  exact key
theorem E45L0_eq (hnd : F.Nodup) (t i : Nat) (S : List Sta) (hS : S.length ≤ 1000000) : iter (E45L0 Ar.std (F.map dFen) (t : Int) (i : Int)) (S.map dSta, 0) = some ((S ++ (bif F.contains ((t : Int), (i : Int)) then [(3, 0, 0)] else [])).map dSta) := by
  have key := iter_pre (step := E45L0 Ar.std (F.map dFen) (t : Int) (i : Int)) F (fun pre => S ++ (bif pre.contains ((t : Int), (i : Int)) then [(3, 0, 0)] else [])) (fun s k => (s.map dSta, (k : Int))) (fun s => s.map dSta)
    (fun j a ha hj => by
      have hd : Ar.std.deq [.int .i64 a.1, .int .i64 a.2] [.int .i64 (t : Int), .int .i64 (i : Int)] = decide (((t : Int), (i : Int)) = a) := by
        rw [std_deq]
        refine decide_eq_decide.2 ⟨fun h => ?_, fun h => by rw [← h]⟩
        simp at h
        obtain ⟨a1, a2⟩ := a
        simp only [Prod.mk.injEq]; exact ⟨h.1.symm, h.2.symm⟩
      have hcon : (F.take j ++ [a]).contains ((t : Int), (i : Int)) = ((F.take j).contains ((t : Int), (i : Int)) || decide (((t : Int), (i : Int)) = a)) := by
        rw [List.contains_eq_mem, List.contains_eq_mem, ← Bool.decide_or]
        exact decide_eq_decide.2 (by simp)
      unfold E45L0
      try dsimp only
      rw [ltM hj, cond_true, gt_fen ha, bsome]
      try dsimp only
      rw [hd, incF hj (by omega), hcon]
      cases he : decide (((t : Int), (i : Int)) = a) with
      | false => rw [cond_false, bsome, Bool.or_false]
      | true =>
        have hno : (F.take j).contains ((t : Int), (i : Int)) = false := by
          rw [decide_eq_true_eq] at he
          rw [List.contains_eq_mem, decide_eq_false_iff_not, he]
          intro hm
          obtain ⟨k, hk, e⟩ := List.getElem_of_mem hm
          rw [List.getElem_take] at e
          have hk' : k < j := by simp at hk; omega
          have hja : F[j] = a := (List.getElem?_eq_some_iff.1 ha).2
          unfold List.Nodup at hnd
          exact List.pairwise_iff_getElem.1 hnd k j (by omega) hj hk' (by rw [e, hja])
        have hap : ap Ar.std ((S ++ []).map dSta) [.agg [.int .i64 3, .int .i64 0, .int .i64 0]] = some ((S ++ [] ++ [(3, 0, 0)]).map dSta) := ap_one dSta _ (3, 0, 0) _ rfl (by simp; omega)
        rw [hno, cond_false, cond_true, hap, bsome, bsome, Bool.false_or, cond_true, List.append_nil])
    (by
      unfold E45L0
      try dsimp only
      rw [geM, cond_false])
  have h0 : ([] : List Fen).contains ((t : Int), (i : Int)) = false := rfl
  simp only [h0, cond_false, List.append_nil] at key
  exact key
theorem E45L1_eq (hnd : F.Nodup) (t : Nat) (k0 n : Int) (hk : 0 ≤ k0) (hk' : k0 ≤ 1000) (hn : 0 ≤ n) (hn' : n ≤ 1000) (r : List Acc) (hr : r.length ≤ 4) :
    iter (E45L1 Ar.std (F.map dFen) (t : Int) (r.map dAcc)) (k0, n, [], 0) = some (k0 + (r.length : Int), (rowP F t n r).1, (rowP F t n r).2.map dSta) := by
  have key := iter_pre (step := E45L1 Ar.std (F.map dFen) (t : Int) (r.map dAcc)) r (fun pre => rowP F t n pre) (fun s k => (k0 + (k : Int), s.1, s.2.map dSta, (k : Int))) (fun s => (k0 + (r.length : Int), s.1, s.2.map dSta))
    (fun i a ha hi => by
      have htk : (r.take i).length = i := by simp; omega
      have hb := rowP_bd F t n (r.take i)
      rw [htk] at hb
      rw [rowP_snoc, htk]
      generalize rowP F (t : Int) n (r.take i) = s at *
      obtain ⟨m, L⟩ := s
      dsimp only at hb ⊢
      have n3 : nk (Ar.std.zeq 3 0) = some () := rfl
      have hk1 : Ar.std.wrp .i64 (Ar.std.zadd (k0 + (i : Int)) 1) = k0 + ((i + 1 : Nat) : Int) := by rw [inc62 (by omega) (by omega)]; omega
      unfold E45L1
      try dsimp only
      rw [ltM hi, cond_true, gt_ac ha, bsome]
      try dsimp only
      rw [incF hi (by omega), hk1]
      unfold opStep
      have fin : ∀ (o : Sta) (m' : Int), ((ap Ar.std (L.map dSta) [.agg [.int .i64 o.1, .int .i64 o.2.1, .int .i64 o.2.2]]).bind fun l190 => (iter (E45L0 Ar.std (F.map dFen) (t : Int) (i : Int)) (l190, 0)).bind fun v222 =>
          (some (Sum.inl (k0 + ((i + 1 : Nat) : Int), m', v222, ((i + 1 : Nat) : Int))) : Option ((Int × Int × List D × Int) ⊕ (Int × Int × List D)))) =
          some (.inl (k0 + ((i + 1 : Nat) : Int), m', (L ++ [o] ++ (bif F.contains ((t : Int), (i : Int)) then [(3, 0, 0)] else [])).map dSta, ((i + 1 : Nat) : Int))) := fun o m' => by
        have h1 : ap Ar.std (L.map dSta) [.agg [.int .i64 o.1, .int .i64 o.2.1, .int .i64 o.2.2]] = some ((L ++ [o]).map dSta) := ap_one dSta _ o _ rfl (by omega)
        rw [h1, bsome, E45L0_eq F hF hnd t i (L ++ [o]) (by simp; omega), bsome]
      cases a.2 with
      | true =>
        rw [cond_true, n3, bsome, bsome, cond_true, cond_true]
        try dsimp only
        rw [tmod3' (by omega), inc62 (n := m) (by omega) (by omega)]
        exact fin (2, a.1, Int.tmod m 3 + 1) (m + 1)
      | false =>
        rw [cond_false, bsome, cond_false, cond_false]
        try dsimp only
        exact fin (1, a.1, 0) m)
    (by
      unfold E45L1
      try dsimp only
      rw [geM, cond_false])
  simp only [Int.add_zero, Int.natCast_zero] at key
  exact key
theorem E44L1_eq (x : List (List Acc)) (hx : x.length ≤ 3) (hr : ∀ r ∈ x, r.length ≤ 4) : iter (E44L1 Ar.std (x.map dAccs) (F.map dFen)) (0, [], 0) = some ((progP F x).2.map dOps) := by
  have key := iter_pre (step := E44L1 Ar.std (x.map dAccs) (F.map dFen)) x (fun pre => progP F pre) (fun s k => (s.1, s.2.map dOps, (k : Int))) (fun s => s.2.map dOps)
    (fun i a ha hi => by
      have htk : (x.take i).length = i := by simp; omega
      have hb := progP_bd F (x.take i) (fun r h => hr r (List.mem_of_mem_take h))
      rw [htk] at hb
      rw [progP_snoc, htk]
      generalize progP F (x.take i) = s at *
      obtain ⟨m, L⟩ := s
      dsimp only at hb ⊢
      have har := hr a (List.mem_of_getElem? ha)
      generalize hR : rowP F (i : Int) m a = R
      have hap : ap Ar.std (L.map dOps) [.list 3 (R.2.map dSta)] = some ((L ++ [R.2]).map dOps) := ap_one dOps _ R.2 _ rfl (by omega)
      unfold E44L1
      try dsimp only
      rw [ltM hi, cond_true, gt_acc ha, bsome, E44L0_eq F hF i m (by omega) (by omega) a har, hR, bsome]
      try dsimp only
      rw [hap, bsome, incF hi (by omega)])
    (by
      unfold E44L1
      try dsimp only
      rw [geM, cond_false])
  exact key
theorem E45L2_eq (hnd : F.Nodup) (x : List (List Acc)) (hx : x.length ≤ 3) (hr : ∀ r ∈ x, r.length ≤ 4) : iter (E45L2 Ar.std (x.map dAccs) (F.map dFen)) ([], 0, 0, 0) = some ((progP F x).2.map dOps, (total x : Int)) := by
  have key := iter_pre (step := E45L2 Ar.std (x.map dAccs) (F.map dFen)) x (fun pre => (progP F pre, total pre)) (fun s k => (s.1.2.map dOps, (s.2 : Int), s.1.1, (k : Int))) (fun s => (s.1.2.map dOps, (s.2 : Int)))
    (fun i a ha hi => by
      have htk : (x.take i).length = i := by simp; omega
      have hb := progP_bd F (x.take i) (fun r h => hr r (List.mem_of_mem_take h))
      have ht := total_le (x.take i) (fun r h => hr r (List.mem_of_mem_take h))
      rw [htk] at hb ht
      rw [progP_snoc, total_snoc, htk]
      generalize progP F (x.take i) = s at *
      generalize total (x.take i) = k at *
      obtain ⟨m, L⟩ := s
      dsimp only at hb ⊢
      have har := hr a (List.mem_of_getElem? ha)
      have hL1 := E45L1_eq F hF hnd i (k : Int) m (by omega) (by omega) (by omega) (by omega) a har
      generalize hR : rowP F (i : Int) m a = R at *
      have hap : ap Ar.std (L.map dOps) [.list 3 (R.2.map dSta)] = some ((L ++ [R.2]).map dOps) := ap_one dOps _ R.2 _ rfl (by omega)
      unfold E45L2
      try dsimp only
      rw [ltM hi, cond_true, gt_acc ha, bsome, hL1, bsome]
      try dsimp only
      rw [hap, bsome, incF hi (by omega)]
      push_cast; rfl)
    (by
      unfold E45L2
      try dsimp only
      rw [geM, cond_false])
  exact key
end
theorem E62_eq (x : List (List Acc)) (hx : x.length ≤ 3) (hr : ∀ r ∈ x, r.length ≤ 4) : ∃ L, E62 Ar.std (x.map dAccs) = some L ∧ L.length = total x := by
  have e0 : ∀ (t : Nat) (r : List Acc) (L : List D), r.length ≤ 4 → L.length ≤ 1000 → ∃ L', iter (E62L0 Ar.std (t : Int) (r.map dAcc)) (L, 0) = some L' ∧ L'.length = L.length + r.length := fun t r L hr hL => by
    obtain ⟨s, h1, h2⟩ := iter_rel (step := E62L0 Ar.std (t : Int) (r.map dAcc)) r.length (fun (s : List D) i => (s, (i : Int))) (fun i s => s.length = L.length + i) (fun s => s)
      (fun i s hi hs => by
        have hap : ap Ar.std s [.agg [.int .i64 (t : Int), .int .i64 (i : Int)]] = some (s ++ [.agg [.int .i64 (t : Int), .int .i64 (i : Int)]]) := ap_std (by simp; omega)
        refine ⟨s ++ [.agg [.int .i64 (t : Int), .int .i64 (i : Int)]], by simp; omega, ?_⟩
        unfold E62L0
        try dsimp only
        rw [ltM hi, cond_true, hap, bsome, incF hi (by omega)])
      (fun s _ => by
        unfold E62L0
        try dsimp only
        rw [geM, cond_false]) L (by simp)
    exact ⟨s, h2, h1⟩
  obtain ⟨s, h1, h2⟩ := iter_rel (step := E62L1 Ar.std (x.map dAccs)) x.length (fun (s : List D) i => (s, (i : Int))) (fun i s => s.length = total (x.take i)) (fun s => s)
    (fun i s hi hs => by
      have ha := List.getElem?_eq_getElem hi
      have har := hr _ (List.getElem_mem hi)
      have ht := total_le (x.take i) (fun r h => hr r (List.mem_of_mem_take h))
      have htk : (x.take i).length ≤ 3 := by simp; omega
      generalize x[i] = a at *
      obtain ⟨L', e1, e2⟩ := e0 i a s har (by omega)
      refine ⟨L', by rw [e2, take_succ_get ha, total_snoc, hs], ?_⟩
      unfold E62L1
      try dsimp only
      rw [ltM hi, cond_true, gt_acc ha, bsome, e1, bsome, incF hi (by omega)])
    (fun s _ => by
      unfold E62L1
      try dsimp only
      rw [geM, cond_false]) [] (by simp [total])
  rw [List.take_length] at h1
  refine ⟨s, ?_, h1⟩
  unfold E62
  rw [show (([] : List D), (0 : Int)) = ([], ((0 : Nat) : Int)) from rfl, h2]; rfl
def ltFen (f g : Fen) : Prop := f.1 < g.1 ∨ f.1 = g.1 ∧ f.2 < g.2
theorem cmp_lt {f g : Fen} (h : ¬ 0 ≤ cmpF f g) : ltFen f g := by
  unfold cmpF cmpI at h
  unfold ltFen
  by_cases h1 : f.1 < g.1
  · exact .inl h1
  · by_cases h2 : g.1 < f.1
    · rw [if_neg h1, if_pos h2] at h; simp at h
    · rw [if_neg h1, if_neg h2] at h
      simp only [ne_eq, not_true_eq_false, if_false] at h
      refine .inr ⟨by omega, ?_⟩
      by_cases h3 : f.2 < g.2
      · exact h3
      · rw [if_neg h3] at h
        split at h <;> simp at h
theorem fencesB_nodup {x : List (List Acc)} {F : List Fen} (h : fencesB x F = true) : F.Nodup := by
  unfold fencesB at h
  simp only [List.all_eq_true, List.mem_range] at h
  have hnext : ∀ i, i + 1 < F.length → ltFen (F.getD i (0, 0)) (F.getD (i + 1) (0, 0)) := fun i hi => by
    have := h (i + 1) hi
    unfold fenAt at this
    simp only [Bool.and_eq_true, Bool.or_eq_true, decide_eq_true_eq, Bool.not_eq_true', decide_eq_false_iff_not, Nat.add_sub_cancel] at this
    rcases this.2 with h0 | h0
    · omega
    · exact cmp_lt h0
  have hlt : ∀ k i, i + k + 1 < F.length → ltFen (F.getD i (0, 0)) (F.getD (i + k + 1) (0, 0)) := fun k => by
    induction k with
    | zero => intro i hi; exact hnext i hi
    | succ k ih =>
      intro i hi
      have h1 := ih i (by omega)
      have h2 := hnext (i + k + 1) (by omega)
      rw [show i + (k + 1) + 1 = i + k + 1 + 1 by omega]
      unfold ltFen at *
      omega
  unfold List.Nodup
  rw [List.pairwise_iff_getElem]
  intro i j hi hj hij e
  have := hlt (j - i - 1) i (by omega)
  rw [show i + (j - i - 1) + 1 = j by omega, List.getD_eq_getElem?_getD, List.getD_eq_getElem?_getD, List.getElem?_eq_getElem hi, List.getElem?_eq_getElem hj, e] at this
  unfold ltFen at this
  omega
def progT (x : List (List Acc)) (F : List Fen) : List (List Sta) × Int := if (fencedT x F).2 = 0 then (if 8 < total x then ([], 2) else ((progP F x).2, 0)) else ([], (fencedT x F).2)
theorem fencedT_zero {x : List (List Acc)} {F : List Fen} (h : (fencedT x F).2 = 0) : valid x = true ∧ fencesB x F = true ∧ fencedT x F = (F, 0) := by
  unfold fencedT at *
  cases hv : valid x <;> simp only [hv, if_true, if_false, Bool.false_eq_true] at h ⊢
  · simp at h
  · cases hf : fencesB x F <;> simp only [hf, if_true, if_false, Bool.false_eq_true] at h ⊢
    · simp at h
    · exact ⟨trivial, trivial, trivial⟩
theorem E44_eq (x : List (List Acc)) (F : List Fen) (hx : Big x) (hF : F.length ≤ 1000000000) : E44 Ar.std (x.map dAccs) (F.map dFen) = some ((progT x F).1.map dOps, (progT x F).2) := by
  have e85 : E85 Ar.std (x.map dAccs) (F.map dFen) = some ((fencedT x F).1.map dFen, (fencedT x F).2) := by
    unfold E85 ofX ofF; rw [dec_eq dAccs_inj hx, bsome, dec_eq dFen_inj (show LenOk 1000000000 F from hF)]; rfl
  have z0 : Ar.std.zeq 0 0 = true := rfl
  have z2 : Ar.std.zeq 2 0 = false := rfl
  unfold E44 progT
  rw [e85, bsome]
  by_cases h0 : (fencedT x F).2 = 0
  · obtain ⟨hv, hf, he⟩ := fencedT_zero h0
    obtain ⟨_, h2, h3⟩ := valid_rows hv
    obtain ⟨L, e62, hL⟩ := E62_eq x h2 h3
    rw [he, if_pos rfl]
    try dsimp only
    rw [z0, cond_true, e62, bsome, bsome]
    by_cases h8 : 8 < total x
    · have : Ar.std.zlt 8 (Ar.std.len L) = true := by rw [std_zlt, std_len, hL]; exact decide_eq_true (by omega)
      rw [this, cond_true, bsome, z2, cond_false, if_pos h8]; rfl
    · have : Ar.std.zlt 8 (Ar.std.len L) = false := by rw [std_zlt, std_len, hL]; exact decide_eq_false (by omega)
      rw [this, cond_false, bsome, z0, cond_true, E44L1_eq F hF x h2 h3, bsome, if_neg h8]
  · have hz : Ar.std.zeq (fencedT x F).2 0 = false := by rw [std_zeq]; exact decide_eq_false h0
    rw [if_neg h0]
    try dsimp only
    rw [hz, cond_false, bsome, cond_false, bsome, hz, cond_false]; rfl
theorem E45_eq (x : List (List Acc)) (F : List Fen) (hx : Big x) (hF : F.length ≤ 1000000000) : E45 Ar.std (x.map dAccs) (F.map dFen) = some ((progT x F).1.map dOps, (progT x F).2) := by
  have e89 : E89 Ar.std (x.map dAccs) (F.map dFen) = some (fencedT x F).2 := by
    unfold E89 ofX ofF; rw [dec_eq dAccs_inj hx, bsome, dec_eq dFen_inj (show LenOk 1000000000 F from hF)]; rfl
  have z0 : Ar.std.zeq 0 0 = true := rfl
  unfold E45 progT
  rw [e89, bsome]
  by_cases h0 : (fencedT x F).2 = 0
  · obtain ⟨hv, hf, he⟩ := fencedT_zero h0
    obtain ⟨_, h2, h3⟩ := valid_rows hv
    rw [h0, if_pos rfl, z0, cond_true, E45L2_eq F hF (fencesB_nodup hf) x h2 h3, bsome]
    try dsimp only
    by_cases h8 : 8 < total x
    · have : Ar.std.zlt 8 (total x : Int) = true := by rw [std_zlt]; exact decide_eq_true (by omega)
      rw [this, cond_true, if_pos h8]; rfl
    · have : Ar.std.zlt 8 (total x : Int) = false := by rw [std_zlt]; exact decide_eq_false (by omega)
      rw [this, cond_false, if_neg h8]
  · have hz : Ar.std.zeq (fencedT x F).2 0 = false := by rw [std_zeq]; exact decide_eq_false h0
    rw [if_neg h0, hz, cond_false]; rfl
theorem progT_bd (x : List (List Acc)) (F : List Fen) : (progT x F).1.length < 9223372036854775808 ∧ ∀ r ∈ (progT x F).1, r.length < 9223372036854775808 := by
  unfold progT
  by_cases h0 : (fencedT x F).2 = 0
  · obtain ⟨hv, hf, he⟩ := fencedT_zero h0
    obtain ⟨_, h2, h3⟩ := valid_rows hv
    rw [if_pos h0]
    by_cases h8 : 8 < total x
    · rw [if_pos h8]; exact ⟨by simp, fun r hr => by cases hr⟩
    · rw [if_neg h8]
      obtain ⟨_, _, a3, a4⟩ := progP_bd F x h3
      exact ⟨by dsimp only; omega, fun r hr => by have := a4 r hr; omega⟩
  · rw [if_neg h0]; exact ⟨by simp, fun r hr => by cases hr⟩
theorem big_nil : Big [] := ⟨by simp, fun l hl => by cases hl⟩
theorem E26_self (y : List (List Acc)) (hy : Big y) : E26 Ar.std (y.map dAccs) (y.map dAccs) = some true := by
  unfold E26 ofX; rw [dec_eq dAccs_inj hy]; simp
theorem E9_ok (x : List (List Acc)) (F : List Fen) (l : List Int) (hx : Big x) (hF : F.length ≤ 9223372036854775807) (hl : l.length ≤ 9223372036854775807) : E9 Ar.std (x.map dAccs) (F.map dFen) (l.map I) = some true := by
  have e13 : E13 Ar.std (x.map dAccs) = some (long x) := by unfold E13 ofX; rw [dec_eq dAccs_inj hx]; rfl
  unfold E9
  rw [e13, bsome]
  cases hlg : long x with
  | true => rfl
  | false =>
  rw [cond_false]
  cases h1 : Ar.std.zlt 40 (Ar.std.len (F.map dFen)) with
  | true => rfl
  | false =>
  rw [cond_false, bsome]
  cases h2 : Ar.std.zlt 40 (Ar.std.len (l.map I)) with
  | true => rfl
  | false =>
  have hF' : F.length ≤ 40 := by simp at h1; omega
  have zn : ∀ n : Int, Ar.std.zeq n n = true := fun n => by simp
  have hp := progT_bd x F
  have e25 : E25 Ar.std (x.map dAccs) = some (if valid x then ((turned x).map dAccs, 0) else ([], 90)) := by unfold E25 ofX; rw [dec_eq dAccs_inj hx]; rfl
  obtain ⟨y, n, hy, hyb⟩ : ∃ (y : List (List Acc)) (n : Int), (if valid x then ((turned x).map dAccs, (0 : Int)) else ([], 90)) = (y.map dAccs, n) ∧ Big y := by
    cases hv : valid x with
    | true => exact ⟨turned x, 0, rfl, big_turned x hx⟩
    | false => exact ⟨[], 90, rfl, big_nil⟩
  have e48 : E48 Ar.std (x.map dAccs) (l.map I) = some ((renT x l).1.map dAccs, (renT x l).2) := by
    unfold E48 ofX ofI
    rw [dec_eq dAccs_inj hx, bsome, dec_eq I_inj (show LenOk 9223372036854775807 l from hl)]; rfl
  have hrb : Big (renT x l).1 := by
    unfold renT
    cases hv : valid x with
    | false => exact big_nil
    | true =>
      cases ht : threadsB x.length l with
      | false => exact big_nil
      | true => exact valid_bg (valid_renamed ht hv)
  rw [cond_false, E44_eq x F hx (by omega), bsome]
  try dsimp only
  rw [E45_eq x F hx (by omega), bsome]
  try dsimp only
  rw [E46_self _ hp.1 hp.2, bsome, zn, cond_true, Bool.not_true, bsome, cond_false, e25, hy, bsome]
  try dsimp only
  rw [E47_eq x hx, hy, bsome]
  try dsimp only
  rw [E26_self y hyb, bsome, zn, cond_true, Bool.not_true, bsome, cond_false, e48, bsome]
  try dsimp only
  rw [E49_eq x l hx hl, bsome]
  try dsimp only
  rw [E26_self _ hrb, bsome, zn, cond_true, cond_true]
  rfl
end Go.Am
