/- Own text: RL36. -/
import Derived.Test.YtcnplegmmmobcaaAmSrt
import Derived.Test.YtcnplegmmmobcaaGenp0
set_option linter.unusedSimpArgs false
set_option maxRecDepth 100000
namespace Go.Am
open Go
def bl (m : Nat) : List Nat := (List.range 6).filter m.testBit
def cNs (l : List Nat) : List Int := l.map fun i : Nat => (i : Int)
def eInt (l : List Int) : List D := enc (cI .i64) l
theorem bl_step : ∀ m : Fin 64, m.val ≠ 0 → bl m.val = Lib.trailingZeros8 m.val :: bl (m.val &&& (m.val - 1)) := by decide +kernel
theorem bl_len (m : Nat) : (bl m).length ≤ 6 := by
  have := List.length_filter_le m.testBit (List.range 6); simpa [bl] using this
theorem mem_bl {m i : Nat} : i ∈ bl m ↔ i < 6 ∧ m.testBit i = true := by simp [bl]
theorem R76_eq (m : Nat) (hm : m < 64) : R76 Ar.std (m : Int) = some (eInt (cNs (bl m))) := by
  have key := iter_inv (step := R76L0 Ar.std) (fun s => ∃ (m : Nat) (acc : List Int), s = ((m : Int), eInt acc) ∧ m < 64 ∧ acc.length ≤ 100 ∧ acc.length + (bl m).length ≤ 100) (fun s => s.1.toNat) (fun s => s.2 ++ eInt (cNs (bl s.1.toNat)))
    (by
      rintro _ ⟨m, acc, rfl, h64, ha, hb⟩
      simp only [R76L0, std_zeq]
      cases h0 : decide ((m : Int) = 0) with
      | true =>
        have : m = 0 := by have := of_decide_eq_true h0; omega
        subst this
        exact .inr (by rw [cond_true]; exact congrArg (fun x => some (Sum.inr x)) (List.append_nil _).symm)
      | false =>
        have hne : m ≠ 0 := by have := of_decide_eq_false h0; omega
        have hs := bl_step ⟨m, h64⟩ hne
        simp only at hs
        have hlt : m &&& (m - 1) < m := Nat.lt_of_le_of_lt Nat.and_le_right (by omega)
        have htz : tz8 Ar.std (m : Int) = some ((Lib.trailingZeros8 m : Nat) : Int) := by
          have h1 : decide ((0 : Int) ≤ m) = true := decide_eq_true (by omega)
          have h2 : decide ((m : Int) ≤ 255) = true := decide_eq_true (by omega)
          simp only [tz8, std_zle, h1, h2, cond_true, Int.toNat_natCast]
        have hw : Ar.std.wrp .u8 (Ar.std.zsub (m : Int) 1) = ((m - 1 : Nat) : Int) := by
          simp only [std_wrp, std_zsub]; rw [u8w _ (by omega) (by omega)]; omega
        have hap : ap Ar.std (eInt acc) [.int .i64 ((Lib.trailingZeros8 m : Nat) : Int)] = some (eInt (acc ++ [((Lib.trailingZeros8 m : Nat) : Int)])) := ap_enc1 rfl (by omega)
        refine .inl ⟨(((m &&& (m - 1) : Nat) : Int), eInt (acc ++ [((Lib.trailingZeros8 m : Nat) : Int)])), ?_, ⟨_, _, rfl, by omega, ?_, ?_⟩, ?_, ?_⟩
        · rw [cond_false, htz]
          rw [bsome, hap, bsome, hw, std_bits, and_u8 m (m - 1) (by omega) (by omega)]
        · rw [hs] at hb; simp at hb ⊢; omega
        · rw [hs] at hb; simp at hb ⊢; omega
        · simp; omega
        · simp only [Int.toNat_natCast]; rw [hs]; simp only [eInt, enc, cNs, List.map_append, List.map_cons, List.map_nil, List.append_assoc, List.cons_append, List.nil_append]) ((m : Int), []) ⟨m, [], rfl, hm, by simp, by have := bl_len m; simp; omega⟩
  simp only [R76, key, bsome, Int.toNat_natCast, List.nil_append]
end Go.Am

set_option maxRecDepth 100000
set_option linter.unusedVariables false
set_option linter.unusedSimpArgs false
namespace Go.Am
open Go
abbrev St3 := Int × Int × Int
abbrev cSt : Cod St3 := cG (lc (cI .i64) (lc (cI .i64) (l1 (cI .i64))))
abbrev eSt (l : List St3) : List D := enc cSt l
abbrev Lg : Nat := 9223372036854775808
theorem ltC {i n : Nat} (h : i < n) : decide ((i : Int) < (n : Int)) = true := by simp; omega
def btw (a b c : Int) : Bool := decide (a ≤ b) && decide (b ≤ c)
@[simp] theorem btw_true (a b c : Int) : btw a b c = true ↔ a ≤ b ∧ b ≤ c := by simp [btw]
theorem R65_eq (a b c : Int) : R65 Ar.std a b c = some (btw a b c) := by simp [R65, btw]
theorem snoc_indR {α : Type} {P : List α → Prop} (h0 : P []) (h1 : ∀ l a, P l → P (l ++ [a])) (l : List α) : P l := by
  have : ∀ n (l : List α), l.length = n → P l := by
    intro n
    induction n with
    | zero => intro l hl; rw [List.length_eq_zero_iff.1 hl]; exact h0
    | succ n ih =>
      intro l hl
      have hne : l ≠ [] := by intro e; subst e; simp at hl
      rw [← List.dropLast_concat_getLast hne]
      exact h1 _ _ (ih _ (by simp [hl]))
  exact this _ l rfl
def stOk (m : Int) (x : St3) : Bool := btw 0 x.1 m && (btw 0 x.2.2 m && btw 0 x.2.1 3)
def badSt (m : Int) (l : List St3) (i : Nat) : Bool := (l[i]?.map fun x => !stOk m x || (l.take i).contains x).getD false
theorem badSt_get {m : Int} {l : List St3} {i : Nat} {x : St3} (h : l[i]? = some x) : badSt m l i = (!stOk m x || (l.take i).contains x) := by simp [badSt, h]
def goodSys (m : Int) (l : List St3) : Bool := !(List.range l.length).any (badSt m l)
def vSys (n : Int) (l : List St3) : Bool := (btw 1 n 6 && decide ((l.length : Int) ≤ 24)) && goodSys (n - 1) l
def keyS (x : St3) : D := .agg [.int .i64 x.1, .int .i64 x.2.1, .int .i64 x.2.2]
theorem keyS_inj {x y : St3} : keyS x = keyS y ↔ x = y := by
  obtain ⟨a, b, c⟩ := x; obtain ⟨a', b', c'⟩ := y
  simp [keyS]
noncomputable def metS (pre : List St3) : List (D × D) := pre.foldl (fun m x => Am.mput m (keyS x) (.bool true)) []
theorem metS_snoc (pre : List St3) (x : St3) : metS (pre ++ [x]) = Am.mput (metS pre) (keyS x) (.bool true) := by simp [metS]
theorem metS_get (pre : List St3) (j : St3) : Am.mget (metS pre) (keyS j) = if pre.contains j then some (.bool true) else none := by
  induction pre using snoc_indR with
  | h0 => rfl
  | h1 l a ih =>
    rw [metS_snoc, mget_mput, ih]
    by_cases h : a = j
    · subst h; simp
    · rw [if_neg (fun e => h (keyS_inj.1 e))]
      have h3 : (l ++ [a]).contains j = l.contains j := by
        have h2 : (j == a) = false := by simpa using fun e : j = a => h e.symm
        simp only [List.contains_append, List.contains_cons, h2, List.contains_nil, Bool.or_false]
      rw [h3]
theorem lk_metS (pre : List St3) (j : St3) : lk Ar.std cB (metS pre) (keyS j) = some (bif pre.contains j then some true else none) := by
  have := metS_get pre j
  show (Am.mget (metS pre) (keyS j)).elim _ _ = _
  rw [this]
  cases pre.contains j <;> simp
theorem R79_eq (a n : Int) (l : List D) : R79 Ar.std a n l = some (btw 0 a (IntKind.i64.wrap (n - 1))) := by
  simp only [R79, R65_eq, bsome, std_wrp, std_zsub]
theorem R33_loop (n : Int) (l : List St3) (hl : l.length < Lg) :
    (goodSys (IntKind.i64.wrap (n - 1)) l = true ∧ iter (R33L0 Ar.std n (eSt l)) (0, []) = some (.inl (metS (l.take l.length)))) ∨ (goodSys (IntKind.i64.wrap (n - 1)) l = false ∧ ∃ z, iter (R33L0 Ar.std n (eSt l)) (0, []) = some (.inr z)) := by
  have hstop := iter_stop (step := R33L0 Ar.std n (eSt l)) l.length (fun i => ((i : Int), metS (l.take i))) (badSt (IntKind.i64.wrap (n - 1)) l) (metS (l.take l.length)) (fun i hi hb => by
    have hx := List.getElem?_eq_getElem hi
    generalize l[i] = x at hx
    rw [badSt_get hx]
    have hk : (D.agg [.int .i64 x.1, .int .i64 x.2.1, .int .i64 x.2.2]) = keyS x := rfl
    simp only [R33L0, std_zlt, len_enc, ltC hi, cond_true, gt_enc hx, bsome, R79_eq, R65_eq, hk, lk_metS, stOk, std_wrp, std_zadd, wrap1 hi hl, std_mput, take_succ_get hx, metS_snoc]
    cases btw 0 x.1 (IntKind.i64.wrap (n - 1)) with
    | false => exact ⟨fun h => (by cases h), fun _ => ⟨_, rfl⟩⟩
    | true =>
      cases btw 0 x.2.2 (IntKind.i64.wrap (n - 1)) with
      | false => exact ⟨fun h => (by cases h), fun _ => ⟨_, rfl⟩⟩
      | true =>
        cases btw 0 x.2.1 3 with
        | false => exact ⟨fun h => (by cases h), fun _ => ⟨_, rfl⟩⟩
        | true =>
          cases (l.take i).contains x with
          | true => exact ⟨fun h => (by cases h), fun _ => ⟨_, rfl⟩⟩
          | false => exact ⟨fun _ => rfl, fun h => (by cases h)⟩) (fun hb => by simp [R33L0])
  rcases hstop with ⟨h1, _, h3⟩ | ⟨h1, z, h3⟩
  · exact .inl ⟨by simp only [goodSys, h1, Bool.not_false], h3⟩
  · exact .inr ⟨by simp only [goodSys, h1, Bool.not_true], z, h3⟩
theorem R33_eq (n : Int) (l : List St3) (hl : l.length < Lg) : R33 Ar.std n (eSt l) = some (vSys n l) := by
  unfold R33
  have hb : btw 1 n 6 = true → IntKind.i64.wrap (n - 1) = n - 1 := fun h => by rw [btw_true] at h; exact i64w _ (by omega) (by omega)
  rcases R33_loop n l hl with ⟨h1, h2⟩ | ⟨h1, z, h2⟩
  · rw [h2]
    simp only [bsome, Sum.elim_inl, R65_eq, vSys]
    cases hn : btw 1 n 6 with
    | false => rfl
    | true => rw [hb hn] at h1; simp [h1]
  · rw [h2]
    simp only [bsome, Sum.elim_inr, vSys]
    cases hn : btw 1 n 6 with
    | false => rfl
    | true => rw [hb hn] at h1; simp [h1]
theorem R77_eq (n : Int) (l : List D) (a : Int) : R77 Ar.std n l a = some (decide (0 ≤ a) && decide (a < n)) := by
  simp [R77]
theorem deq_st (x y : St3) : Ar.std.deq [.int .i64 x.1, .int .i64 x.2.1, .int .i64 x.2.2] [.int .i64 y.1, .int .i64 y.2.1, .int .i64 y.2.2] = decide (x = y) := by
  obtain ⟨a, b, c⟩ := x; obtain ⟨a', b', c'⟩ := y
  simp [std_deq]
theorem R34_eq (n : Int) (l : List St3) (hl : l.length < Lg) : R34 Ar.std n (eSt l) = some (vSys n l) := by
  have e0 : ∀ i x, l[i]? = some x → i ≤ l.length → iter (R34L0 Ar.std x.1 x.2.1 x.2.2 (eSt (l.take i))) 0 = some (bif (l.take i).contains x then .inr () else .inl ()) := by
    intro i x hx hi
    rw [← List.any_beq']
    refine iter_any (l.take i) (fun y => y == x) _ _ (fun k d hd hk => ?_) ?_
    · have hk' : k < (l.take i).length := hk
      simp only [R34L0, std_zlt, len_enc, ltC hk', cond_true, gt_enc hd, bsome, deq_st, std_wrp, std_zadd, wrap1 hk' (Nat.lt_of_le_of_lt (by simp; omega : (l.take i).length ≤ l.length) hl)]
      by_cases h : x = d
      · subst h; simp
      · have h' : ¬ d = x := fun e => h e.symm
        have e1 : (d == x) = false := by simpa using h'
        rw [decide_eq_false h, e1]; rfl
    · simp [R34L0]
  have e : iter (R34L1 Ar.std n (eSt l)) 0 = some (bif (List.range l.length).any (badSt (n - 1) l) then .inr () else .inl ()) := by
    refine iter_rng l.length _ _ _ (fun i hi => ?_) ?_
    · have hx := List.getElem?_eq_getElem hi
      generalize l[i] = x at hx
      rw [badSt_get hx]
      have ha : ∀ a : Int, (decide (0 ≤ a) && decide (a < n)) = btw 0 a (n - 1) := fun a => by
        rw [btw]; congr 1; exact decide_eq_decide.2 (by omega)
      simp only [R34L1, std_zlt, len_enc, ltC hi, cond_true, gt_enc hx, bsome, R77_eq, ha, sl_encT (Nat.le_of_lt hi), e0 i x hx (Nat.le_of_lt hi), stOk, std_wrp, std_zadd, wrap1 hi hl, cond_some]
      have h3 : (bif decide (x.2.1 < 0) then true else decide (3 < x.2.1)) = !btw 0 x.2.1 3 := by
        by_cases h : x.2.1 < 0
        · have : ¬ (0 ≤ x.2.1) := by omega
          simp [btw, h, this]
        · have h' : 0 ≤ x.2.1 := by omega
          have : decide (3 < x.2.1) = !decide (x.2.1 ≤ 3) := by
            by_cases h2 : x.2.1 ≤ 3
            · simp [h2]
            · simp [h2]; omega
          simp [btw, h, h', this]
      cases h1 : btw 0 x.1 (n - 1) with
      | false => rfl
      | true =>
        cases h2 : btw 0 x.2.2 (n - 1) with
        | false => rfl
        | true =>
          simp only [h3, cond_true, Bool.true_and]
          cases btw 0 x.2.1 3 with
          | false => rfl
          | true => cases (l.take i).contains x <;> rfl
    · simp [R34L1]
  simp only [R34, std_zlt, len_enc, cond_some, bsome, e]
  have hv : vSys n l = ((!(bif decide (n < 1) then true else bif decide (6 < n) then true else decide (24 < (l.length : Int)))) && !(List.range l.length).any (badSt (n - 1) l)) := by
    unfold vSys goodSys
    congr 1
    by_cases h1 : n < 1
    · have : ¬ 1 ≤ n := by omega
      simp [btw, h1, this]
    · by_cases h2 : 6 < n
      · have h1' : 1 ≤ n := by omega
        have : ¬ n ≤ 6 := by omega
        simp [btw, h1, h2, this]
      · have h1' : 1 ≤ n := by omega
        have : n ≤ 6 := by omega
        by_cases h3 : (l.length : Int) ≤ 24
        · have h4 : ¬ 24 < (l.length : Int) := by omega
          simp only [btw, h1, h2, h1', this, h3, h4, decide_true, decide_false, cond_false, Bool.and_self, Bool.not_false]
        · have h4 : 24 < (l.length : Int) := by omega
          simp only [btw, h1, h2, h1', this, h3, h4, decide_true, decide_false, cond_false, Bool.and_false, Bool.not_true]
  rw [hv]
  cases (bif decide (n < 1) then true else bif decide (6 < n) then true else decide (24 < (l.length : Int))) with
  | true => rfl
  | false => cases (List.range l.length).any (badSt (n - 1) l) <;> rfl
end Go.Am

set_option maxRecDepth 100000
set_option linter.unusedVariables false
set_option linter.unusedSimpArgs false
namespace Go.Am
open Go
def SOk (l : List St3) : Prop := l.length < Lg ∧ ∀ x ∈ l, (0 ≤ x.1 ∧ x.1 < 6) ∧ (0 ≤ x.2.2 ∧ x.2.2 < 6) ∧ (0 ≤ x.2.1 ∧ x.2.1 ≤ 3)
theorem vSys_ok {n : Int} {l : List St3} (h : vSys n l = true) : (1 ≤ n ∧ n ≤ 6) ∧ SOk l := by
  simp only [vSys, goodSys, Bool.and_eq_true, btw_true, decide_eq_true_eq, Bool.not_eq_true', List.any_eq_false, List.mem_range] at h
  obtain ⟨⟨h1, h2⟩, h3⟩ := h
  refine ⟨h1, by show l.length < 9223372036854775808; omega, fun x hx => ?_⟩
  obtain ⟨i, hi, rfl⟩ := List.getElem_of_mem hx
  have := h3 i hi
  rw [badSt_get (List.getElem?_eq_getElem hi)] at this
  simp only [stOk, Bool.or_eq_true, Bool.not_eq_true', not_or, Bool.not_eq_false, Bool.and_eq_true, btw_true] at this
  omega
def goes (set : Nat) (lab : Int) (x : St3) : Bool := decide (x.2.1 = lab) && set.testBit x.1.toNat
def addTo (set : Nat) (lab : Int) (s : Nat) (x : St3) : Nat := bif goes set lab x then s ||| 2 ^ x.2.2.toNat else s
def stepN (l : List St3) (set : Nat) (lab : Int) : Nat := l.foldl (addTo set lab) 0
theorem addTo_lt {l : List St3} (hl : SOk l) {set : Nat} {lab : Int} {s : Nat} (hs : s < 64) {x : St3} (hx : x ∈ l) : addTo set lab s x < 64 := by
  have := hl.2 x hx
  unfold addTo
  cases goes set lab x with
  | false => exact hs
  | true => exact or_lt (n := 6) hs (Nat.pow_lt_pow_right (by decide : 1 < 2) (by omega))
theorem fold_lt {l : List St3} (hl : SOk l) (set : Nat) (lab : Int) : ∀ (m : List St3) (s : Nat), (∀ x ∈ m, x ∈ l) → s < 64 → m.foldl (addTo set lab) s < 64
  | [], s, _, hs => hs
  | x :: m, s, hm, hs => fold_lt hl set lab m _ (fun y hy => hm y (by simp [hy])) (addTo_lt hl hs (hm x (by simp)))
theorem stepN_lt {l : List St3} (hl : SOk l) (set : Nat) (lab : Int) : stepN l set lab < 64 := fold_lt hl set lab l 0 (fun x hx => hx) (by decide)
theorem fold_test (set : Nat) (lab : Int) (j : Nat) : ∀ (m : List St3) (s : Nat), (m.foldl (addTo set lab) s).testBit j = (s.testBit j || m.any fun x => goes set lab x && decide (x.2.2.toNat = j))
  | [], s => by simp
  | x :: m, s => by
    rw [List.foldl_cons, fold_test set lab j m, List.any_cons]
    unfold addTo
    cases goes set lab x with
    | false => simp
    | true => simp [Nat.testBit_or, Nat.testBit_two_pow, Bool.or_assoc]
theorem stepN_test (l : List St3) (set : Nat) (lab : Int) (j : Nat) : (stepN l set lab).testBit j = l.any fun x => goes set lab x && decide (x.2.2.toNat = j) := by
  rw [stepN, fold_test]; simp
theorem stepN_or (l : List St3) (a b : Nat) (lab : Int) : stepN l (a ||| b) lab = stepN l a lab ||| stepN l b lab := by
  apply Nat.eq_of_testBit_eq
  intro j
  rw [Nat.testBit_or, stepN_test, stepN_test, stepN_test, ← any_orB]
  refine any_congr fun x _ => ?_
  simp only [goes, Nat.testBit_or]
  cases decide (x.2.1 = lab) <;> cases a.testBit x.1.toNat <;> cases b.testBit x.1.toNat <;> cases decide (x.2.2.toNat = j) <;> rfl
theorem stepN_zero (l : List St3) (lab : Int) : stepN l 0 lab = 0 := by
  apply Nat.eq_of_testBit_eq
  intro j
  rw [stepN_test]; simp [goes]
theorem iter_foldI {α S T X : Type} {step : T → Option (T ⊕ X)} (l : List α) (st : S → Nat → T) (f : S → α → S) (fin : S → X) (Inv : S → Prop)
    (hs : ∀ i a s, l[i]? = some a → i < l.length → Inv s → step (st s i) = some (.inl (st (f s a) (i + 1))) ∧ Inv (f s a))
    (he : ∀ s, Inv s → step (st s l.length) = some (.inr (fin s))) (s0 : S) (h0 : Inv s0) : iter step (st s0 0) = some (fin (l.foldl f s0)) := by
  rw [iter_listI l st (fun s a => .inl (f s a)) fin (fun _ s => Inv s) (fun i a s ha hi hI => ⟨(hs i a s ha hi hI).1, fun s' e => by cases e; exact (hs i a s ha hi hI).2⟩) (fun s hI => he s hI) s0 h0, foldE_inl]
def hid (l : List St3) (s : Nat) : Nat := s ||| stepN l s 0
theorem hid_lt {l : List St3} (hl : SOk l) {s : Nat} (hs : s < 64) : hid l s < 64 := or_lt (n := 6) hs (stepN_lt hl s 0)
def hids (l : List St3) : Nat → Nat → Nat
  | 0, s => s
  | k + 1, s => hids l k (hid l s)
theorem hids_lt {l : List St3} (hl : SOk l) : ∀ (k : Nat) {s : Nat}, s < 64 → hids l k s < 64
  | 0, _, hs => hs
  | k + 1, _, hs => hids_lt hl k (hid_lt hl hs)
def quietN (n : Int) (l : List St3) (s : Nat) : Nat := hids l n.toNat s
theorem quietN_lt {n : Int} {l : List St3} (hl : SOk l) {s : Nat} (hs : s < 64) : quietN n l s < 64 := hids_lt hl _ hs
def comesN (n : Int) (l : List St3) (s : Nat) (lab : Int) : Nat := bif decide (lab = 0) then quietN n l s else quietN n l (stepN l (quietN n l s) lab)
theorem comesN_lt {n : Int} {l : List St3} (hl : SOk l) {s : Nat} (hs : s < 64) (lab : Int) : comesN n l s lab < 64 := by
  unfold comesN
  cases decide (lab = 0) with
  | true => exact quietN_lt hl hs
  | false => exact quietN_lt hl (stepN_lt hl _ _)
def behindN (n : Int) (l : List St3) (tr : List Int) : Nat := tr.foldl (comesN n l) (quietN n l 1)
end Go.Am

set_option maxRecDepth 100000
set_option linter.unusedVariables false
set_option linter.unusedSimpArgs false
namespace Go.Am
open Go
theorem or_cross (a b c d : Nat) : (a ||| b) ||| (c ||| d) = (a ||| c) ||| (b ||| d) := by
  apply Nat.eq_of_testBit_eq; intro j
  simp only [Nat.testBit_or]
  cases a.testBit j <;> cases b.testBit j <;> cases c.testBit j <;> cases d.testBit j <;> rfl
theorem hid_or (l : List St3) (a b : Nat) : hid l (a ||| b) = hid l a ||| hid l b := by
  simp only [hid, stepN_or]; exact or_cross _ _ _ _
theorem hids_or (l : List St3) : ∀ (k a b : Nat), hids l k (a ||| b) = hids l k a ||| hids l k b
  | 0, _, _ => rfl
  | k + 1, a, b => by simp only [hids, hid_or, hids_or l k]
theorem hid_zero (l : List St3) : hid l 0 = 0 := by simp [hid, stepN_zero]
theorem hids_zero (l : List St3) : ∀ k, hids l k 0 = 0
  | 0 => rfl
  | k + 1 => by simp only [hids, hid_zero, hids_zero l k]
theorem hids_succ (l : List St3) : ∀ (k s : Nat), hids l (k + 1) s = hid l (hids l k s)
  | 0, s => rfl
  | k + 1, s => by rw [hids, hids_succ l k]; rfl
theorem quietN_or (n : Int) (l : List St3) (a b : Nat) : quietN n l (a ||| b) = quietN n l a ||| quietN n l b := hids_or l _ a b
theorem quietN_zero (n : Int) (l : List St3) : quietN n l 0 = 0 := hids_zero l _
theorem comesN_or (n : Int) (l : List St3) (a b : Nat) (lab : Int) : comesN n l (a ||| b) lab = comesN n l a lab ||| comesN n l b lab := by
  unfold comesN
  cases decide (lab = 0) with
  | true => exact quietN_or n l a b
  | false => simp only [cond_false, quietN_or, stepN_or]
theorem comesN_zero (n : Int) (l : List St3) (lab : Int) : comesN n l 0 lab = 0 := by
  unfold comesN
  cases decide (lab = 0) with
  | true => exact quietN_zero n l
  | false => simp only [cond_false, quietN_zero, stepN_zero]
def orAll (g : Nat → Nat) (l : List Nat) : Nat := l.foldl (fun s i => s ||| g i) 0
theorem foldl_or (g : Nat → Nat) : ∀ (l : List Nat) (s : Nat), l.foldl (fun s i => s ||| g i) s = s ||| orAll g l
  | [], s => by simp [orAll]
  | i :: l, s => by
    have h1 := foldl_or g l (s ||| g i)
    have h2 := foldl_or g l (0 ||| g i)
    unfold orAll at *
    rw [List.foldl_cons, h1, List.foldl_cons, h2, Nat.zero_or, Nat.or_assoc]
theorem orAll_cons (g : Nat → Nat) (i : Nat) (l : List Nat) : orAll g (i :: l) = g i ||| orAll g l := by
  show l.foldl _ (0 ||| g i) = _
  rw [foldl_or, Nat.zero_or]
theorem orAll_lin {g : Nat → Nat} (h0 : g 0 = 0) (ho : ∀ a b, g (a ||| b) = g a ||| g b) : ∀ l : List Nat, orAll (fun i => g (2 ^ i)) l = g (orAll (fun i => 2 ^ i) l)
  | [] => h0.symm
  | i :: l => by rw [orAll_cons, orAll_cons, ho, orAll_lin h0 ho l]
theorem orAll_bl : ∀ s : Fin 64, orAll (fun i => 2 ^ i) (bl s.val) = s.val := by decide +kernel
theorem orAll_set {g : Nat → Nat} (h0 : g 0 = 0) (ho : ∀ a b, g (a ||| b) = g a ||| g b) (s : Nat) (hs : s < 64) : orAll (fun i => g (2 ^ i)) (bl s) = g s := by
  rw [orAll_lin h0 ho, orAll_bl ⟨s, hs⟩]
theorem orAll_congr {f g : Nat → Nat} {l : List Nat} (h : ∀ i ∈ l, f i = g i) : orAll f l = orAll g l := by
  induction l with
  | nil => rfl
  | cons i l ih => rw [orAll_cons, orAll_cons, h i (by simp), ih (fun j hj => h j (by simp [hj]))]
def SB (n : Nat) (l : List St3) : Prop := ∀ x ∈ l, x.2.2.toNat < n
theorem stepN_ltB {n : Nat} {l : List St3} (hb : SB n l) (set : Nat) (lab : Int) : stepN l set lab < 2 ^ n := by
  apply Nat.lt_pow_two_of_testBit
  intro j hj
  rw [stepN_test, List.any_eq_false]
  intro x hx
  have := hb x hx
  simp; intro _; omega
theorem hid_ltB {n : Nat} {l : List St3} (hb : SB n l) {s : Nat} (hs : s < 2 ^ n) : hid l s < 2 ^ n := or_lt hs (stepN_ltB hb s 0)
theorem hids_ltB {n : Nat} {l : List St3} (hb : SB n l) : ∀ (k : Nat) {s : Nat}, s < 2 ^ n → hids l k s < 2 ^ n
  | 0, _, hs => hs
  | k + 1, _, hs => hids_ltB hb k (hid_ltB hb hs)
theorem countP_le {α : Type} {p q : α → Bool} (h : ∀ a, p a = true → q a = true) : ∀ l : List α, l.countP p ≤ l.countP q := fun l => List.countP_mono_left (fun a _ => h a)
theorem countP_lt {α : Type} {p q : α → Bool} (h : ∀ a, p a = true → q a = true) : ∀ {l : List α} {a : α}, a ∈ l → p a = false → q a = true → l.countP p < l.countP q
  | b :: l, a, ha, hp, hq => by
    rcases List.mem_cons.1 ha with rfl | ha
    · rw [List.countP_cons, List.countP_cons, hp, hq]
      have := countP_le h l
      simp; omega
    · rw [List.countP_cons, List.countP_cons]
      have := countP_lt h ha hp hq
      cases hpb : p b with
      | true => rw [h b hpb]; simp; omega
      | false => cases q b <;> simp <;> omega
def card (n s : Nat) : Nat := (List.range n).countP s.testBit
theorem card_le (n s : Nat) : card n s ≤ n := by have := List.countP_le_length (p := s.testBit) (l := List.range n); simpa [card] using this
theorem hid_sub {l : List St3} {s j : Nat} (h : s.testBit j = true) : (hid l s).testBit j = true := by simp [hid, Nat.testBit_or, h]
theorem card_hid {n : Nat} {l : List St3} (hb : SB n l) {s : Nat} (hs : s < 2 ^ n) (hne : hid l s ≠ s) : card n s < card n (hid l s) := by
  obtain ⟨j, hj⟩ : ∃ j, (hid l s).testBit j ≠ s.testBit j := Nat.exists_testBit_ne_of_ne hne
  have hq : (hid l s).testBit j = true ∧ s.testBit j = false := by
    cases h : s.testBit j with
    | true => rw [hid_sub h, h] at hj; exact absurd rfl hj
    | false => rw [h] at hj; simpa using hj
  have hjn : j < n := by
    rcases Nat.lt_or_ge j n with h | h
    · exact h
    · have h2 : hid l s < 2 ^ j := Nat.lt_of_lt_of_le (hid_ltB hb hs) (Nat.pow_le_pow_right (by decide) h)
      rw [Nat.testBit_lt_two_pow h2] at hq; cases hq.1
  exact countP_lt (fun a ha => hid_sub ha) (List.mem_range.2 hjn) hq.2 hq.1
theorem card_hids {n : Nat} {l : List St3} (hb : SB n l) : ∀ (k : Nat) {s : Nat}, s < 2 ^ n → hid l (hids l k s) ≠ hids l k s → k < card n (hid l (hids l k s))
  | 0, s, hs, hne => Nat.lt_of_le_of_lt (Nat.zero_le _) (card_hid hb hs hne)
  | k + 1, s, hs, hne => by
    have h1 := card_hid hb (hids_ltB hb (k + 1) hs) hne
    have h2 : hid l (hids l k s) ≠ hids l k s := fun e => hne (by rw [hids_succ, e, e])
    have h3 := card_hids hb k hs h2
    rw [← hids_succ] at h3
    omega
theorem hids_fix {n : Nat} {l : List St3} (hb : SB n l) {s : Nat} (hs : s < 2 ^ n) : hid l (hids l n s) = hids l n s := by
  by_cases h : hid l (hids l n s) = hids l n s
  · exact h
  · have h1 := card_hids hb n hs h
    have h2 := card_le n (hid l (hids l n s))
    omega
theorem hids_hid {n : Nat} {l : List St3} (hb : SB n l) {s : Nat} (hs : s < 2 ^ n) : hids l n (hid l s) = hids l n s := by
  have : hids l (n + 1) s = hids l n (hid l s) := rfl
  rw [← this, hids_succ, hids_fix hb hs]
theorem hids_of_fix {l : List St3} {s : Nat} (h : hid l s = s) : ∀ k, hids l k s = s
  | 0 => rfl
  | k + 1 => by rw [hids, h, hids_of_fix h k]
end Go.Am

set_option maxRecDepth 100000
set_option linter.unusedVariables false
set_option linter.unusedSimpArgs false
namespace Go.Am
open Go
def uD (k : Nat) : D := .int .u8 (k : Int)
def mk (f : Nat → Nat) : List Nat := (List.range 48).map f
def FR (n : Int) (l : List St3) (f : Nat → Nat) : List D := .int .i64 n :: .list 3 (eSt l) :: (mk f).map uD
theorem mk_get (f : Nat → Nat) {k : Nat} (h : k < 48) : (mk f)[k]? = some (f k) := by simp [mk, h]
theorem mk_congr {f g : Nat → Nat} (h : ∀ k, k < 48 → f k = g k) : mk f = mk g := List.map_congr_left fun k hk => h k (List.mem_range.1 hk)
theorem FR_congr (n : Int) (l : List St3) {f g : Nat → Nat} (h : ∀ k, k < 48 → f k = g k) : FR n l f = FR n l g := by unfold FR; rw [mk_congr h]
def upd (f : Nat → Nat) (k v : Nat) : Nat → Nat := fun j => if j = k then v else f j
theorem mk_set (f : Nat → Nat) (k v : Nat) : (mk f).set k v = mk (upd f k v) := by
  refine List.ext_getElem? fun j => ?_
  rw [List.getElem?_set]
  by_cases hj : j < 48
  · by_cases h : k = j
    · subst h
      have : k < (mk f).length := by simp [mk, hj]
      rw [if_pos rfl, if_pos this, mk_get _ hj]; simp [upd]
    · have h' : ¬ j = k := fun e => h e.symm
      rw [if_neg h, mk_get _ hj, mk_get _ hj]; simp [upd, h']
  · have h1 : (mk f)[j]? = none := by simp [mk]; omega
    have h2 : (mk (upd f k v))[j]? = none := by simp [mk]; omega
    by_cases h : k = j
    · subst h
      have : ¬ k < (mk f).length := by simp [mk]; omega
      rw [if_pos rfl, if_neg this, h2]
    · rw [if_neg h, h1, h2]
theorem FR_lget (n : Int) (l : List St3) (f : Nat → Nat) {k : Nat} (h : k < 48) : Ar.std.lget (FR n l f) (k + 2) = some (uD (f k)) := by
  show ((mk f).map uD)[k]? = _
  rw [List.getElem?_map, mk_get f h]; rfl
theorem FR_gc (n : Int) (l : List St3) (f : Nat → Nat) {k : Nat} (h : k < 48) : gc Ar.std (cI .u8) (FR n l f) (k + 2) = some ((f k : Nat) : Int) := by
  show (Ar.std.lget (FR n l f) (k + 2)).bind (cI .u8).un = _
  rw [FR_lget n l f h]; simp [uD]
theorem FR_lset (n : Int) (l : List St3) (f : Nat → Nat) (k v : Nat) : Ar.std.lset (FR n l f) (k + 2) (uD v) = FR n l (upd f k v) := by
  show .int .i64 n :: .list 3 (eSt l) :: ((mk f).map uD).set k (uD v) = _
  rw [← List.map_set, mk_set]; rfl
theorem ix3 (lab a o : Nat) : Ar.std.nat (Ar.std.zadd (Ar.std.zadd (Ar.std.zadd 0 (Ar.std.zmul (lab : Int) (Int.ofNat 6))) (Ar.std.zmul (a : Int) (Int.ofNat 1))) (Int.ofNat (o + 2))) = (o + 6 * lab + a) + 2 := by
  simp only [std_nat, std_zadd, std_zmul, Int.ofNat_eq_natCast]; omega
theorem ix2 (a o : Nat) : Ar.std.nat (Ar.std.zadd (Ar.std.zadd 0 (Ar.std.zmul (a : Int) (Int.ofNat 1))) (Int.ofNat (o + 2))) = (o + a) + 2 := by
  simp only [std_nat, std_zadd, std_zmul, Int.ofNat_eq_natCast]; omega
theorem ckN (a : Nat) : ck (Ar.std.zle 0 (a : Int)) = some () := ck_of (by rw [std_zle]; exact decide_eq_true (by omega))
theorem ckL {a b : Nat} (h : a < b) : ck (Ar.std.zlt (a : Int) (Int.ofNat b)) = some () := ck_of (by rw [std_zlt]; exact decide_eq_true (by simp only [Int.ofNat_eq_natCast]; omega))
noncomputable def allL (A : Ar) (o : Nat) (x1 : Int) (x3 : List D) (r5 : List D) : (Int × Int) → Option ((Int × Int) ⊕ (Int)) := fun (v22, v23) =>
  bif (A.zlt v23 (A.len r5)) then
    (gt A (cI .i64) r5 v23).bind fun a25 =>
    (ck (A.zle 0 x1)).bind fun _ =>
    (ck (A.zlt x1 (Int.ofNat 4))).bind fun _ =>
    (ck (A.zle 0 a25)).bind fun _ =>
    (ck (A.zlt a25 (Int.ofNat 6))).bind fun _ =>
    (gc A (cI .u8) x3 (A.nat (A.zadd (A.zadd (A.zadd 0 (A.zmul x1 (Int.ofNat 6))) (A.zmul a25 (Int.ofNat 1))) (Int.ofNat (o + 2))))).bind fun a37 =>
    some (.inl ((A.bits .or .u8 v22 a37), (A.wrp .i64 (A.zadd v23 1))))
  else
    some (.inr v22)
theorem allL_eq (o lab : Nat) (ho : o + 24 ≤ 48) (hlab : lab < 4) (n : Int) (l : List St3) (f : Nat → Nat) (hf : ∀ k, k < 48 → f k < 64) (set : Nat) :
    iter (allL Ar.std o (lab : Int) (FR n l f) (eInt (cNs (bl set)))) (0, 0) = some ((orAll (fun i => f (o + 6 * lab + i)) (bl set) : Nat) : Int) := by
  have hb := bl_len set
  have key := iter_foldI (step := allL Ar.std o (lab : Int) (FR n l f) (eInt (cNs (bl set)))) (bl set) (fun (s : Nat) i => ((s : Int), (i : Int))) (fun s i => s ||| f (o + 6 * lab + i)) (fun s => ((s : Nat) : Int)) (fun s => s < 64)
    (fun i a s ha hi hI => by
      have ha6 := (mem_bl.1 (List.mem_of_getElem? ha)).1
      have hk : o + 6 * lab + a < 48 := by omega
      have hg : (cNs (bl set))[i]? = some (a : Int) := by simp [cNs, ha]
      have hi' : i < (cNs (bl set)).length := by simpa [cNs] using hi
      refine ⟨?_, or_lt (n := 6) hI (hf _ hk)⟩
      simp only [eInt, allL, std_zlt, len_enc, ltC hi', cond_true, gt_enc hg]
      rw [bsome, ckN, bsome, ← std_zlt, ckL hlab, bsome, ckN, bsome, ← std_zlt, ckL ha6, bsome, ix3, FR_gc n l f hk, bsome, std_bits, or_u8 _ _ (by omega) (by have := hf _ hk; omega), std_wrp, std_zadd, wrap1 hi (by omega)])
    (fun s _ => by
      have d : decide (((bl set).length : Int) < ((cNs (bl set)).length : Int)) = false := decide_eq_false (by simp [cNs])
      simp only [allL, std_zlt, eInt, len_enc, d, cond_false]) 0 (by decide)
  exact key
theorem R68_eq (lab : Nat) (hlab : lab < 4) (n : Int) (l : List St3) (f : Nat → Nat) (hf : ∀ k, k < 48 → f k < 64) (set : Nat) (hs : set < 64) :
    R68 Ar.std (lab : Int) (set : Int) (FR n l f) = some ((orAll (fun i => f (6 * lab + i)) (bl set) : Nat) : Int) := by
  unfold R68
  rw [R76_eq set hs, bsome]
  have h := allL_eq 0 lab (by decide) hlab n l f hf set
  have e : R68L0 Ar.std (lab : Int) (FR n l f) (eInt (cNs (bl set))) = allL Ar.std 0 (lab : Int) (FR n l f) (eInt (cNs (bl set))) := rfl
  rw [e, h, bsome]; simp only [Nat.zero_add]
theorem R68a_eq (lab : Nat) (hlab : lab < 4) (n : Int) (l : List St3) (f : Nat → Nat) (hf : ∀ k, k < 48 → f k < 64) (set : Nat) (hs : set < 64) :
    R68a Ar.std (lab : Int) (set : Int) (FR n l f) = some ((orAll (fun i => f (24 + 6 * lab + i)) (bl set) : Nat) : Int) := by
  unfold R68a
  rw [R76_eq set hs, bsome]
  have h := allL_eq 24 lab (by decide) hlab n l f hf set
  have e : R68aL0 Ar.std (lab : Int) (FR n l f) (eInt (cNs (bl set))) = allL Ar.std 24 (lab : Int) (FR n l f) (eInt (cNs (bl set))) := rfl
  rw [e, h, bsome]
end Go.Am

set_option maxRecDepth 100000
set_option linter.unusedVariables false
set_option linter.unusedSimpArgs false
namespace Go.Am
open Go
theorem FR_lsetD (n : Int) (l : List St3) (f : Nat → Nat) (k v : Nat) : Ar.std.lset (FR n l f) (k + 2) (.int .u8 ((v : Nat) : Int)) = FR n l (upd f k v) := FR_lset n l f k v
theorem ltS {τ : Type} {c : Cod τ} {l : List τ} {i : Nat} (h : i < l.length) : Ar.std.zlt (i : Int) (Ar.std.len (enc c l)) = true := by rw [std_zlt, len_enc]; exact ltC h
theorem geS {τ : Type} {c : Cod τ} {l : List τ} : Ar.std.zlt (l.length : Int) (Ar.std.len (enc c l)) = false := by rw [std_zlt, len_enc]; exact decide_eq_false (by omega)
theorem nkN (a : Nat) : nk (Ar.std.zlt (a : Int) 0) = some () := nk_of (by rw [std_zlt]; exact decide_eq_false (by omega))
theorem shlS {q : Nat} (h : q < 8) : Ar.std.shl .u8 1 (q : Int) = ((2 ^ q : Nat) : Int) := by rw [std_shl]; exact shl_u8 q h
theorem orS {a b : Nat} (ha : a < 64) (hb : b < 64) : Ar.std.bits .or .u8 (a : Int) (b : Int) = ((a ||| b : Nat) : Int) := by rw [std_bits]; exact or_u8 a b (by omega) (by omega)
theorem inc {i n : Nat} (h : i < n) (hn : n < Lg) : Ar.std.wrp .i64 (Ar.std.zadd (i : Int) 1) = ((i + 1 : Nat) : Int) := by rw [std_wrp, std_zadd]; exact wrap1 h hn
theorem pow6 {q : Nat} (h : q < 6) : 2 ^ q < 64 := Nat.pow_lt_pow_right (n := 6) (by decide : 1 < 2) h
theorem stepN_snoc (l : List St3) (x : St3) (set : Nat) (lab : Int) : stepN (l ++ [x]) set lab = addTo set lab (stepN l set lab) x := by simp [stepN, List.foldl_append]
def t1 (l : List St3) (k : Nat) : Nat := if k < 24 then stepN l (2 ^ (k % 6)) ((k / 6 : Nat) : Int) else 0
theorem SOk_sub {l m : List St3} (hl : SOk l) (hm : ∀ x ∈ m, x ∈ l) (hn : m.length ≤ l.length) : SOk m := ⟨Nat.lt_of_le_of_lt hn hl.1, fun x hx => hl.2 x (hm x hx)⟩
theorem t1_snoc (pre : List St3) (p b q : Nat) (hp : p < 6) (hb : b < 4) (k : Nat) :
    upd (t1 pre) (6 * b + p) (stepN pre (2 ^ p) (b : Int) ||| 2 ^ q) k = t1 (pre ++ [((p : Int), (b : Int), (q : Int))]) k := by
  unfold upd
  by_cases hk : k = 6 * b + p
  · subst hk
    have e1 : (6 * b + p) % 6 = p := by omega
    have e2 : (6 * b + p) / 6 = b := by omega
    rw [if_pos rfl, t1, if_pos (by omega), e1, e2, stepN_snoc]
    have : goes (2 ^ p) (b : Int) ((p : Int), (b : Int), (q : Int)) = true := by simp [goes, Nat.testBit_two_pow]
    simp only [addTo, this, cond_true, Int.toNat_natCast]
  · rw [if_neg hk]
    unfold t1
    by_cases h24 : k < 24
    · rw [if_pos h24, if_pos h24, stepN_snoc]
      have : goes (2 ^ (k % 6)) ((k / 6 : Nat) : Int) ((p : Int), (b : Int), (q : Int)) = false := by
        simp only [goes, Nat.testBit_two_pow, Int.toNat_natCast, Bool.and_eq_false_iff, decide_eq_false_iff_not]
        omega
      simp only [addTo, this, cond_false]
    · rw [if_neg h24, if_neg h24]
theorem R58L0_eq (n : Int) {l : List St3} (hl : SOk l) : iter (R58L0 Ar.std (eSt l)) (0, FR n l (fun _ => 0)) = some (FR n l (t1 l)) := by
  have key := iter_pre (step := R58L0 Ar.std (eSt l)) l t1 (fun f i => ((i : Int), FR n l f)) (FR n l)
    (fun i x hx hi => by
      have hm := List.mem_of_getElem? hx
      obtain ⟨⟨h1, h2⟩, ⟨h3, h4⟩, h5, h6⟩ := hl.2 x hm
      obtain ⟨x1, x2, x3⟩ := x
      obtain ⟨p, rfl⟩ := Int.eq_ofNat_of_zero_le h1
      obtain ⟨q, rfl⟩ := Int.eq_ofNat_of_zero_le h3
      obtain ⟨b, rfl⟩ := Int.eq_ofNat_of_zero_le h5
      simp only at h2 h4 h6
      have hp : p < 6 := by omega
      have hq : q < 6 := by omega
      have hb : b < 4 := by omega
      have hk : 0 + 6 * b + p < 48 := by omega
      have hk24 : 0 + 6 * b + p < 24 := by omega
      have hso : SOk (l.take i) := SOk_sub hl (fun y hy => List.mem_of_mem_take hy) (by simp; omega)
      have hv : t1 (l.take i) (0 + 6 * b + p) = stepN (l.take i) (2 ^ p) (b : Int) := by
        have e1 : (0 + 6 * b + p) % 6 = p := by omega
        have e2 : (0 + 6 * b + p) / 6 = b := by omega
        rw [t1, if_pos hk24, e1, e2]
      have hx2 := ix3 b p 0
      simp only [Nat.zero_add] at hx2 hk hv
      show (bif Ar.std.zlt (i : Int) (Ar.std.len (eSt l)) then _ else _) = _
      rw [ltS hi, cond_true, gt_enc hx, bsome]
      dsimp only
      rw [ckN, bsome, ckL hb, bsome, ckN, bsome, ckL hp, bsome, hx2, FR_gc n l _ hk, bsome, nkN, bsome, bsome, bsome, bsome, bsome, FR_lget n l _ hk, bsome,
        shlS (by omega), hv, orS (stepN_lt hso _ _) (pow6 hq), FR_lsetD, inc hi hl.1, FR_congr n l (fun k _ => t1_snoc (l.take i) p b q hp hb k)])
    (by
      show (bif Ar.std.zlt (l.length : Int) (Ar.std.len (eSt l)) then _ else _) = _
      rw [geS, cond_false])
  have e : FR n l (t1 []) = FR n l (fun _ => 0) := FR_congr n l (fun k _ => by unfold t1; split <;> rfl)
  rw [e] at key
  exact key
def t2 (n : Int) (l : List St3) (i k : Nat) : Nat := if k < 24 then stepN l (2 ^ (k % 6)) ((k / 6 : Nat) : Int) else if k < 24 + i then quietN n l (2 ^ (k - 24)) else 0
theorem t2_lt {n : Int} {l : List St3} (hl : SOk l) {i : Nat} (hi : i ≤ 6) (k : Nat) : t2 n l i k < 64 := by
  unfold t2; split
  · exact stepN_lt hl _ _
  · split
    · exact quietN_lt hl (pow6 (by omega))
    · decide
theorem low_set {l : List St3} {f : Nat → Nat} (hf : ∀ k, k < 24 → f k = stepN l (2 ^ (k % 6)) ((k / 6 : Nat) : Int)) {lab : Nat} (hlab : lab < 4) {set : Nat} (hs : set < 64) :
    orAll (fun i => f (6 * lab + i)) (bl set) = stepN l set (lab : Int) := by
  rw [orAll_congr (g := fun i => stepN l (2 ^ i) (lab : Int)) (fun i hi => by
    have hi6 := (mem_bl.1 hi).1
    have e1 : (6 * lab + i) % 6 = i := by omega
    have e2 : (6 * lab + i) / 6 = lab := by omega
    show f (6 * lab + i) = _
    rw [hf _ (by omega), e1, e2])]
  exact orAll_set (g := fun s => stepN l s (lab : Int)) (stepN_zero l _) (fun a b => stepN_or l a b _) set hs
theorem R68_low {n : Int} {l : List St3} {f : Nat → Nat} (h64 : ∀ k, k < 48 → f k < 64) (hf : ∀ k, k < 24 → f k = stepN l (2 ^ (k % 6)) ((k / 6 : Nat) : Int)) {lab : Nat} (hlab : lab < 4) {set : Nat} (hs : set < 64) :
    R68 Ar.std (lab : Int) (set : Int) (FR n l f) = some ((stepN l set (lab : Int) : Nat) : Int) := by
  rw [R68_eq lab hlab n l f h64 set hs, low_set hf hlab hs]
theorem R58L1_eq {n : Int} {m : Nat} (hm : m ≤ 6) {l : List St3} (hl : SOk l) (hb : SB m l) {f : Nat → Nat} (h64 : ∀ k, k < 48 → f k < 64) (hf : ∀ k, k < 24 → f k = stepN l (2 ^ (k % 6)) ((k / 6 : Nat) : Int)) {set : Nat} (hs : set < 2 ^ m) :
    iter (R58L1 Ar.std (FR n l f)) ((set : Int), ((hid l set : Nat) : Int)) = some ((hids l m set : Nat) : Int) := by
  have h26 : ∀ {s : Nat}, s < 2 ^ m → s < 64 := fun h => Nat.lt_of_lt_of_le h (Nat.pow_le_pow_right (n := 2) (by decide) hm)
  have key := iter_inv (step := R58L1 Ar.std (FR n l f)) (fun st => ∃ z : Nat, st = ((z : Int), ((hid l z : Nat) : Int)) ∧ z < 2 ^ m) (fun st => 64 - st.1.toNat) (fun st => ((hids l m st.1.toNat : Nat) : Int))
    (by
      rintro _ ⟨z, rfl, hz⟩
      show (∃ s', (bif Ar.std.zeq ((hid l z : Nat) : Int) (z : Int) then _ else _) = _ ∧ _) ∨ (bif Ar.std.zeq ((hid l z : Nat) : Int) (z : Int) then _ else _) = _
      rw [std_zeq]
      by_cases h : hid l z = z
      · refine .inr ?_
        rw [decide_eq_true (by rw [h]), cond_true]
        simp only [Int.toNat_natCast]; rw [hids_of_fix h]
      · refine .inl ⟨(((hid l z : Nat) : Int), ((hid l (hid l z) : Nat) : Int)), ?_, ⟨_, rfl, hid_ltB hb hz⟩, ?_, ?_⟩
        · rw [decide_eq_false (by omega), cond_false]
          have := R68_low (n := n) h64 hf (lab := 0) (by decide) (h26 (hid_ltB hb hz))
          have e0 : ((0 : Nat) : Int) = 0 := rfl
          rw [e0] at this
          rw [this, bsome, orS (h26 (hid_ltB hb hz)) (stepN_lt hl _ _)]; rfl
        · have h1 : z ≤ hid l z := Nat.left_le_or
          have h2 := h26 (hid_ltB hb hz)
          simp only [Int.toNat_natCast]; omega
        · simp only [Int.toNat_natCast]; rw [hids_hid hb hz]) _ ⟨set, rfl, hs⟩
  exact key
end Go.Am

set_option maxRecDepth 100000
set_option linter.unusedVariables false
set_option linter.unusedSimpArgs false
namespace Go.Am
open Go
theorem lt64 {m s : Nat} (hm : m ≤ 6) (h : s < 2 ^ m) : s < 64 := Nat.lt_of_lt_of_le h (Nat.pow_le_pow_right (n := 2) (by decide) hm)
theorem ltN {i m : Nat} (h : i < m) : Ar.std.zlt (i : Int) (m : Int) = true := by rw [std_zlt]; exact ltC h
theorem geN (m : Nat) : Ar.std.zlt (m : Int) (m : Int) = false := by rw [std_zlt]; exact decide_eq_false (by omega)
theorem quietN_nat (m : Nat) (l : List St3) (s : Nat) : quietN (m : Int) l s = hids l m s := by simp [quietN]
theorem R58L2_eq {m : Nat} (hm : m ≤ 6) {l : List St3} (hl : SOk l) (hb : SB m l) : iter (R58L2 Ar.std (m : Int)) (0, FR m l (t1 l)) = some (FR m l (t2 m l m)) := by
  have key := iter_pre (step := R58L2 Ar.std (m : Int)) (List.range m) (fun pre => t2 m l pre.length) (fun f i => ((i : Int), FR m l f)) (FR m l)
    (fun i x hx hi => by
      have him : i < m := by simpa using hi
      have e1 : ((List.range m).take i).length = i := by simp; omega
      have e2 : ((List.range m).take i ++ [x]).length = i + 1 := by simp; omega
      rw [e1, e2]
      have h64 : ∀ k, k < 48 → t2 m l i k < 64 := fun k _ => t2_lt hl (by omega) k
      have hf : ∀ k, k < 24 → t2 m l i k = stepN l (2 ^ (k % 6)) ((k / 6 : Nat) : Int) := fun k hk => by rw [t2, if_pos hk]
      have h2 : (2 : Nat) ^ i < 2 ^ m := Nat.pow_lt_pow_right (by decide) him
      have hR := R68_low (n := (m : Int)) h64 hf (lab := 0) (by decide) (pow6 (by omega : i < 6))
      have e0 : ((0 : Nat) : Int) = 0 := rfl
      rw [e0] at hR
      have hL := R58L1_eq (n := (m : Int)) hm hl hb h64 hf h2
      have hx2 := ix2 i 24
      show (bif Ar.std.zlt (i : Int) (m : Int) then _ else _) = _
      rw [ltN him, cond_true, nkN, bsome, shlS (by omega), hR, bsome, orS (pow6 (by omega)) (stepN_lt hl _ _)]
      show (iter (R58L1 Ar.std (FR m l (t2 m l i))) (((2 ^ i : Nat) : Int), ((hid l (2 ^ i) : Nat) : Int))).bind _ = _
      rw [hL, bsome, ckN, bsome, ckL (by omega : i < 6), bsome, hx2, FR_lget _ l _ (by omega), bsome, FR_lsetD, inc him (by show m < 9223372036854775808; omega)]
      refine congrArg (fun z => some (Sum.inl (((i + 1 : Nat) : Int), z))) (FR_congr _ l fun k hk => ?_)
      unfold upd
      by_cases h : k = 24 + i
      · subst h
        rw [if_pos rfl, t2, if_neg (by omega), if_pos (by omega), quietN_nat, Nat.add_sub_cancel_left]
      · rw [if_neg h]
        unfold t2
        by_cases h24 : k < 24
        · rw [if_pos h24, if_pos h24]
        · rw [if_neg h24, if_neg h24]
          by_cases hki : k < 24 + i
          · rw [if_pos hki, if_pos (by omega)]
          · rw [if_neg hki, if_neg (by omega)])
    (by
      rw [List.length_range]
      show (bif Ar.std.zlt (m : Int) (m : Int) then _ else _) = _
      rw [geN, cond_false])
  have e : FR (m : Int) l (t2 m l ([] : List Nat).length) = FR m l (t1 l) := FR_congr _ l (fun k _ => by
    unfold t1 t2
    by_cases h24 : k < 24
    · rw [if_pos h24, if_pos h24]
    · rw [if_neg h24, if_neg h24, if_neg (by simp; omega)])
  rw [e, List.length_range] at key
  exact key
def t3 (m : Nat) (l : List St3) (lab j k : Nat) : Nat :=
  if k < 24 then stepN l (2 ^ (k % 6)) ((k / 6 : Nat) : Int)
  else if (k - 24) % 6 < m ∧ ((k - 24) / 6 < lab ∨ (k - 24) / 6 = lab ∧ (k - 24) % 6 < j) then comesN m l (2 ^ ((k - 24) % 6)) (((k - 24) / 6 : Nat) : Int) else 0
theorem t3_lt {m : Nat} {l : List St3} (hl : SOk l) (lab j k : Nat) : t3 m l lab j k < 64 := by
  unfold t3; split
  · exact stepN_lt hl _ _
  · split
    · exact comesN_lt hl (pow6 (by omega)) _
    · decide
theorem comesN_pos {n : Int} {l : List St3} {s : Nat} {lab : Nat} (h : 0 < lab) : comesN n l s (lab : Int) = quietN n l (stepN l (quietN n l s) (lab : Int)) := by
  unfold comesN
  rw [decide_eq_false (by omega), cond_false]
theorem comesN_nil {n : Int} {l : List St3} {s : Nat} : comesN n l s ((0 : Nat) : Int) = quietN n l s := rfl
theorem bl_lt {m s i : Nat} (h : s < 2 ^ m) (hi : i ∈ bl s) : i < m := by
  have := (mem_bl.1 hi).2
  rcases Nat.lt_or_ge i m with h1 | h1
  · exact h1
  · rw [Nat.testBit_lt_two_pow (Nat.lt_of_lt_of_le h (Nat.pow_le_pow_right (by decide) h1))] at this; cases this
theorem quietN_ltB {m : Nat} {l : List St3} (hb : SB m l) {s : Nat} (hs : s < 2 ^ m) : quietN (m : Int) l s < 2 ^ m := by rw [quietN_nat]; exact hids_ltB hb m hs
theorem R58L3_eq {m : Nat} (hm : m ≤ 6) {l : List St3} (hl : SOk l) (hb : SB m l) {lab : Nat} (h0 : 0 < lab) (h4 : lab < 4) :
    iter (R58L3 Ar.std (m : Int) (lab : Int)) (0, FR m l (t3 m l lab 0)) = some (FR m l (t3 m l lab m)) := by
  have key := iter_pre (step := R58L3 Ar.std (m : Int) (lab : Int)) (List.range m) (fun pre => t3 m l lab pre.length) (fun f i => ((i : Int), FR m l f)) (FR m l)
    (fun i x hx hi => by
      have him : i < m := by simpa using hi
      have e1 : ((List.range m).take i).length = i := by simp; omega
      have e2 : ((List.range m).take i ++ [x]).length = i + 1 := by simp; omega
      rw [e1, e2]
      have h64 : ∀ k, k < 48 → t3 m l lab i k < 64 := fun k _ => t3_lt hl _ _ k
      have hf : ∀ k, k < 24 → t3 m l lab i k = stepN l (2 ^ (k % 6)) ((k / 6 : Nat) : Int) := fun k hk => by rw [t3, if_pos hk]
      have hq : ∀ j, j < m → t3 m l lab i (24 + j) = quietN m l (2 ^ j) := fun j hj => by
        have a1 : (24 + j - 24) % 6 = j := by omega
        have a2 : (24 + j - 24) / 6 = 0 := by omega
        rw [t3, if_neg (by omega), a1, a2, if_pos ⟨hj, .inl h0⟩, comesN_nil]
      have h2 : (2 : Nat) ^ i < 2 ^ m := Nat.pow_lt_pow_right (by decide) him
      have hqs := quietN_ltB hb h2
      have hR := R68_low (n := (m : Int)) h64 hf (lab := lab) h4 (lt64 hm hqs)
      have hss : stepN l (quietN m l (2 ^ i)) (lab : Int) < 2 ^ m := stepN_ltB hb _ _
      have hA := R68a_eq 0 (by decide) (m : Int) l (t3 m l lab i) h64 (stepN l (quietN m l (2 ^ i)) (lab : Int)) (lt64 hm hss)
      have e0 : ((0 : Nat) : Int) = 0 := rfl
      have hor : orAll (fun j => t3 m l lab i (24 + 6 * 0 + j)) (bl (stepN l (quietN m l (2 ^ i)) (lab : Int))) = comesN m l (2 ^ i) (lab : Int) := by
        rw [orAll_congr (g := fun j => quietN m l (2 ^ j)) (fun j hj => hq j (bl_lt hss hj)), comesN_pos h0]
        exact orAll_set (g := quietN m l) (quietN_zero _ l) (quietN_or _ l) _ (lt64 hm hss)
      rw [hor, e0] at hA
      have hx2 := ix2 i 24
      have hx3 := ix3 lab i 24
      show (bif Ar.std.zlt (i : Int) (m : Int) then _ else _) = _
      rw [ltN him, cond_true, ckN, bsome, ckL (by omega : i < 6), bsome, hx2, FR_gc _ l _ (by omega), bsome, hq i him, hR, bsome, hA, bsome, ckN, bsome, ckL h4, bsome, bsome, bsome, hx3, FR_lget _ l _ (by omega), bsome, FR_lsetD, inc him (by show m < 9223372036854775808; omega)]
      refine congrArg (fun z => some (Sum.inl (((i + 1 : Nat) : Int), z))) (FR_congr _ l fun k hk => ?_)
      unfold upd
      by_cases h : k = 24 + 6 * lab + i
      · subst h
        have a1 : (24 + 6 * lab + i - 24) % 6 = i := by omega
        have a2 : (24 + 6 * lab + i - 24) / 6 = lab := by omega
        rw [if_pos rfl, t3, if_neg (by omega), a1, a2, if_pos ⟨him, .inr ⟨rfl, by omega⟩⟩]
      · rw [if_neg h]
        unfold t3
        by_cases h24 : k < 24
        · rw [if_pos h24, if_pos h24]
        · rw [if_neg h24, if_neg h24]
          by_cases hki : (k - 24) % 6 < m ∧ ((k - 24) / 6 < lab ∨ (k - 24) / 6 = lab ∧ (k - 24) % 6 < i)
          · rw [if_pos hki, if_pos (by omega)]
          · rw [if_neg hki, if_neg (by omega)])
    (by
      rw [List.length_range]
      show (bif Ar.std.zlt (m : Int) (m : Int) then _ else _) = _
      rw [geN, cond_false])
  rw [List.length_range] at key
  exact key
def tF (m : Nat) (l : List St3) : Nat → Nat := t3 m l 4 0
theorem R58L4_eq {m : Nat} (hm : m ≤ 6) {l : List St3} (hl : SOk l) (hb : SB m l) : iter (R58L4 Ar.std (m : Int)) (1, FR m l (t2 m l m)) = some (FR m l (tF m l)) := by
  have key := iter_pre (step := R58L4 Ar.std (m : Int)) (List.range 3) (fun pre => t3 m l (pre.length + 1) 0) (fun f i => (((i + 1 : Nat) : Int), FR m l f)) (FR m l)
    (fun i x hx hi => by
      have hi3 : i < 3 := by simpa using hi
      have e1 : ((List.range 3).take i).length = i := by simp; omega
      have e2 : ((List.range 3).take i ++ [x]).length = i + 1 := by simp; omega
      rw [e1, e2]
      have hle : Ar.std.zle ((i + 1 : Nat) : Int) 3 = true := by rw [std_zle]; exact decide_eq_true (by omega)
      show (bif Ar.std.zle ((i + 1 : Nat) : Int) 3 then _ else _) = _
      rw [hle, cond_true, R58L3_eq hm hl hb (by omega) (by omega), bsome, inc (by omega : i + 1 < 9) (by decide)]
      refine congrArg (fun z => some (Sum.inl (((i + 1 + 1 : Nat) : Int), z))) (FR_congr _ l fun k hk => ?_)
      unfold t3
      by_cases h24 : k < 24
      · rw [if_pos h24, if_pos h24]
      · rw [if_neg h24, if_neg h24]
        by_cases hki : (k - 24) % 6 < m ∧ ((k - 24) / 6 < i + 1 ∨ (k - 24) / 6 = i + 1 ∧ (k - 24) % 6 < m)
        · rw [if_pos hki, if_pos (by omega)]
        · rw [if_neg hki, if_neg (by omega)])
    (by
      have hle : Ar.std.zle (((List.range 3).length + 1 : Nat) : Int) 3 = false := by rw [std_zle]; decide
      unfold R58L4
      dsimp only
      rw [hle, cond_false])
  have e : FR (m : Int) l (t3 m l (([] : List Nat).length + 1) 0) = FR m l (t2 m l m) := FR_congr _ l (fun k _ => by
    unfold t2 t3
    by_cases h24 : k < 24
    · rw [if_pos h24, if_pos h24]
    · rw [if_neg h24, if_neg h24]
      by_cases hk : k < 24 + m
      · have a1 : (k - 24) % 6 = k - 24 := by omega
        have a2 : (k - 24) / 6 = 0 := by omega
        rw [if_pos hk, a1, a2, if_pos (by simp; omega), comesN_nil]
      · rw [if_neg hk, if_neg (by simp; omega)])
  rw [e] at key
  exact key
theorem R58_eq (n : Int) (l : List St3) (hll : l.length < Lg) : R58 Ar.std n (eSt l) = some (bif vSys n l then .inl (FR n l (tF n.toNat l)) else .inr ()) := by
  unfold R58
  rw [R33_eq n l hll, bsome]
  cases hv : vSys n l with
  | false => rfl
  | true =>
    obtain ⟨⟨h1, h6⟩, hl⟩ := vSys_ok hv
    obtain ⟨m, rfl⟩ := Int.eq_ofNat_of_zero_le (by omega : 0 ≤ n)
    have hb : SB m l := by
      intro x hx
      simp only [vSys, goodSys, Bool.and_eq_true, Bool.not_eq_true', List.any_eq_false, List.mem_range] at hv
      obtain ⟨i, hi, rfl⟩ := List.getElem_of_mem hx
      have := hv.2 i hi
      rw [badSt_get (List.getElem?_eq_getElem hi)] at this
      simp only [stOk, Bool.or_eq_true, Bool.not_eq_true', not_or, Bool.not_eq_false, Bool.and_eq_true, btw_true] at this
      omega
    have hm : m ≤ 6 := by omega
    have h0 := R58L0_eq (m : Int) hl
    rw [cond_true, cond_true]
    show ((iter (R58L0 Ar.std (eSt l)) (0, FR m l (fun _ => 0))).bind _) = _
    rw [h0, bsome, R58L2_eq hm hl hb, bsome, R58L4_eq hm hl hb, bsome]; rfl
end Go.Am

set_option maxRecDepth 100000
set_option linter.unusedVariables false
set_option linter.unusedSimpArgs false
namespace Go.Am
open Go
def fr (n : Int) (l : List St3) : List D := FR n l (tF n.toNat l)
theorem vSys_B {n : Int} {l : List St3} (hv : vSys n l = true) : SB n.toNat l := by
  intro x hx
  simp only [vSys, goodSys, Bool.and_eq_true, Bool.not_eq_true', List.any_eq_false, List.mem_range] at hv
  obtain ⟨i, hi, rfl⟩ := List.getElem_of_mem hx
  have := hv.2 i hi
  rw [badSt_get (List.getElem?_eq_getElem hi)] at this
  simp only [stOk, Bool.or_eq_true, Bool.not_eq_true', not_or, Bool.not_eq_false, Bool.and_eq_true, btw_true] at this
  omega
theorem tF_lt {m : Nat} {l : List St3} (hl : SOk l) (k : Nat) : tF m l k < 64 := t3_lt hl 4 0 k
theorem tF_comes {m : Nat} {l : List St3} {lab i : Nat} (h4 : lab < 4) (hi : i < m) (h6 : i < 6) : tF m l (24 + 6 * lab + i) = comesN m l (2 ^ i) (lab : Int) := by
  have a1 : (24 + 6 * lab + i - 24) % 6 = i := by omega
  have a2 : (24 + 6 * lab + i - 24) / 6 = lab := by omega
  rw [tF, t3, if_neg (by omega), a1, a2, if_pos ⟨hi, .inl h4⟩]
theorem high_set {m : Nat} (hm : m ≤ 6) {l : List St3} {lab : Nat} (h4 : lab < 4) {set : Nat} (hs : set < 2 ^ m) : orAll (fun i => tF m l (24 + 6 * lab + i)) (bl set) = comesN m l set (lab : Int) := by
  rw [orAll_congr (g := fun j => comesN m l (2 ^ j) (lab : Int)) (fun j hj => tF_comes h4 (bl_lt hs hj) (mem_bl.1 hj).1)]
  exact orAll_set (g := fun s => comesN m l s (lab : Int)) (comesN_zero _ l _) (fun a b => comesN_or _ l a b _) _ (lt64 hm hs)
structure Sys (m : Nat) (l : List St3) : Prop where
  le : m ≤ 6
  pos : 1 ≤ m
  ok : SOk l
  sb : SB m l
theorem Sys.of {n : Int} {l : List St3} (hv : vSys n l = true) : ∃ m : Nat, n = (m : Int) ∧ Sys m l := by
  obtain ⟨⟨h1, h6⟩, hl⟩ := vSys_ok hv
  have hb := vSys_B hv
  obtain ⟨m, rfl⟩ := Int.eq_ofNat_of_zero_le (by omega : 0 ≤ n)
  exact ⟨m, rfl, by omega, by omega, hl, hb⟩
theorem comesN_ltB {m : Nat} {l : List St3} (hb : SB m l) {s : Nat} (hs : s < 2 ^ m) (lab : Int) : comesN m l s lab < 2 ^ m := by
  unfold comesN
  cases decide (lab = 0) with
  | true => exact quietN_ltB hb hs
  | false => exact quietN_ltB hb (stepN_ltB hb _ _)
theorem R68a_F {m : Nat} {l : List St3} (S : Sys m l) {lab : Nat} (h4 : lab < 4) {set : Nat} (hs : set < 2 ^ m) : R68a Ar.std (lab : Int) (set : Int) (FR m l (tF m l)) = some ((comesN m l set (lab : Int) : Nat) : Int) := by
  rw [R68a_eq lab h4 (m : Int) l _ (fun k _ => tF_lt S.ok k) set (lt64 S.le hs), high_set S.le h4 hs]
theorem R68c_is (A : Ar) (x1 x2 : Int) (x3 x4 : List D) : R68c A x1 x2 x3 x4 = R68a A x1 x2 x4 := rfl
theorem R58a_is (A : Ar) (x1 : Int) (x2 x3 : List D) : R58a A x1 x2 x3 = R58 A x1 x2 := rfl
theorem R62a_is (A : Ar) (x1 x2 x3 : List D) : R62a A x1 x2 x3 = R62 A x1 x3 := rfl
theorem R70_eq (n n' : Int) (l l' : List St3) (hl : l.length < Lg) (hl' : l'.length < Lg) : R70 Ar.std n (eSt l) n' (eSt l') =
    some (bif vSys n l then bif vSys n' l' then .inl (FR n l (tF n.toNat l), FR n' l' (tF n'.toNat l')) else .inr (.inl (FR n l (tF n.toNat l))) else .inr (.inr ())) := by
  unfold R70
  rw [R58_eq n l hl, bsome]
  cases vSys n l with
  | false => rfl
  | true =>
    rw [cond_true, cond_true]
    show (R58a Ar.std n' (eSt l') (FR n l (tF n.toNat l))).bind _ = _
    rw [R58a_is, R58_eq n' l' hl', bsome]
    cases vSys n' l' <;> rfl
def seenL (tr : List Int) : Bool := tr.all fun x => btw 1 x 3
theorem behindN_ltB {m : Nat} {l : List St3} (S : Sys m l) (tr : List Int) : behindN m l tr < 2 ^ m := by
  have h1 : quietN (m : Int) l 1 < 2 ^ m := quietN_ltB S.sb (Nat.one_lt_two_pow (by have := S.pos; omega))
  have : ∀ (tr : List Int) (s : Nat), s < 2 ^ m → tr.foldl (comesN m l) s < 2 ^ m := by
    intro tr
    induction tr with
    | nil => intro s hs; exact hs
    | cons x tr ih => intro s hs; exact ih _ (comesN_ltB S.sb hs x)
  exact this tr _ h1
theorem R62_eq {m : Nat} {l : List St3} (S : Sys m l) (tr : List Int) (ht : tr.length < Lg) (hs : seenL tr = true) : R62 Ar.std (eInt tr) (FR m l (tF m l)) = some ((behindN m l tr : Nat) : Int) := by
  have hp := S.pos
  have h1 : quietN (m : Int) l 1 < 2 ^ m := quietN_ltB S.sb (Nat.one_lt_two_pow (by omega))
  have key := iter_foldI (step := R62L0 Ar.std (eInt tr) (FR m l (tF m l))) tr (fun (s : Nat) i => ((s : Int), (i : Int))) (comesN m l) (fun s => ((s : Nat) : Int)) (fun s => s < 2 ^ m)
    (fun i x s hx hi hI => by
      refine ⟨?_, comesN_ltB S.sb hI x⟩
      have hb := List.all_eq_true.1 hs x (List.mem_of_getElem? hx)
      rw [btw_true] at hb
      obtain ⟨b, rfl⟩ := Int.eq_ofNat_of_zero_le (by omega : 0 ≤ x)
      show (bif Ar.std.zlt (i : Int) (Ar.std.len (eInt tr)) then _ else _) = _
      rw [eInt, ltS hi, cond_true, gt_enc hx, bsome, R68a_F S (by omega) hI, bsome, inc hi ht])
    (fun s _ => by
      show (bif Ar.std.zlt (tr.length : Int) (Ar.std.len (eInt tr)) then _ else _) = _
      rw [eInt, geS, cond_false]) (quietN m l 1) h1
  have hg := FR_gc (m : Int) l (tF m l) (k := 24) (by decide)
  have e24 : tF m l 24 = quietN m l 1 := tF_comes (lab := 0) (i := 0) (by decide) (by omega) (by decide)
  have ei : Ar.std.nat (Ar.std.zadd 0 (Int.ofNat 26)) = 24 + 2 := rfl
  unfold R62
  rw [ei, hg, bsome, e24]
  exact congrArg (fun o => o.bind fun v => some v) key
end Go.Am

set_option maxRecDepth 100000
set_option linter.unusedVariables false
set_option linter.unusedSimpArgs false
namespace Go.Am
open Go
theorem zero_nat (k : Nat) : decide ((k : Int) = 0) = decide (k = 0) := decide_eq_decide.2 (by omega)
theorem R63_eq (x : Int) : R63 Ar.std x = some (btw 1 x 3) := by simp [R63, btw]
end Go.Am

set_option maxRecDepth 100000
set_option linter.unusedVariables false
set_option linter.unusedSimpArgs false
namespace Go.Am
open Go
abbrev El := Nat × Nat × List Int
abbrev cEl : Cod (Int × Int × List D) := cG (lc (cI .u8) (lc (cI .u8) (l1 (cL 1))))
def eEl (e : El) : Int × Int × List D := ((e.1 : Int), (e.2.1 : Int), eInt e.2.2)
abbrev eLn (l : List El) : List D := enc cEl (l.map eEl)
def keyP (p : Nat × Nat) : D := .agg [.int .u8 (p.1 : Int), .int .u8 (p.2 : Int)]
theorem keyP_inj {x y : Nat × Nat} : keyP x = keyP y ↔ x = y := by
  obtain ⟨a, b⟩ := x; obtain ⟨a', b'⟩ := y
  simp [keyP]; omega
noncomputable def metP (pre : List (Nat × Nat)) : List (D × D) := pre.foldl (fun m x => Am.mput m (keyP x) (.bool true)) []
theorem metP_snoc (pre : List (Nat × Nat)) (x : Nat × Nat) : metP (pre ++ [x]) = Am.mput (metP pre) (keyP x) (.bool true) := by simp [metP]
theorem metP_get (pre : List (Nat × Nat)) (j : Nat × Nat) : Am.mget (metP pre) (keyP j) = if pre.contains j then some (.bool true) else none := by
  induction pre using snoc_indR with
  | h0 => rfl
  | h1 l a ih =>
    rw [metP_snoc, mget_mput, ih]
    by_cases h : a = j
    · subst h; simp
    · rw [if_neg (fun e => h (keyP_inj.1 e))]
      have h3 : (l ++ [a]).contains j = l.contains j := by
        have h2 : (j == a) = false := by simpa using fun e : j = a => h e.symm
        simp only [List.contains_append, List.contains_cons, h2, List.contains_nil, Bool.or_false]
      rw [h3]
theorem lk_metP (pre : List (Nat × Nat)) (j : Nat × Nat) : lk Ar.std cB (metP pre) (keyP j) = some (bif pre.contains j then some true else none) := by
  have := metP_get pre j
  show (Am.mget (metP pre) (keyP j)).elim _ _ = _
  rw [this]
  cases pre.contains j <;> simp
theorem R67_eq (tr : List Int) (ht : tr.length < 4294967296) : R67 Ar.std (eInt tr) = some (eInt tr) := by
  unfold R67
  rw [eInt, ap_enc0 ht, bsome]
  cases tr with
  | nil =>
    rw [show Ar.std.zlt 0 (Ar.std.len (enc (cI .i64) ([] : List Int))) = false from rfl, cond_false]
    show both (some []) (some []) = _
    simp [both, enc]
  | cons x tr =>
    rw [show Ar.std.zlt 0 (Ar.std.len (enc (cI .i64) (x :: tr))) = true from by rw [std_zlt, len_enc]; exact decide_eq_true (by simp), cond_true]
def inn (f g : Nat → Int → Nat) (e : El) (s : List El × List (Nat × Nat)) (lab : Int) : List El × List (Nat × Nat) :=
  bif !decide (f e.1 lab = 0) && !s.2.contains (f e.1 lab, g e.2.1 lab) then (s.1 ++ [(f e.1 lab, g e.2.1 lab, e.2.2 ++ [lab])], s.2 ++ [(f e.1 lab, g e.2.1 lab)]) else s
def cnt (kn : List (Nat × Nat)) : Nat := (List.range 4096).countP fun k => !kn.contains (k / 64, k % 64)
theorem cnt_le (kn : List (Nat × Nat)) : cnt kn ≤ 4096 := by have := List.countP_le_length (p := fun k => !kn.contains (k / 64, k % 64)) (l := List.range 4096); simpa [cnt] using this
theorem cnt_add {kn : List (Nat × Nat)} {x y : Nat} (hx : x < 64) (hy : y < 64) (h : kn.contains (x, y) = false) : cnt (kn ++ [(x, y)]) < cnt kn := by
  refine countP_lt (fun k hk => ?_) (a := 64 * x + y) (List.mem_range.2 (by omega)) ?_ ?_
  · simp only [List.contains_append, Bool.not_eq_true', Bool.or_eq_false_iff] at hk ⊢; exact hk.1
  · have e1 : (64 * x + y) / 64 = x := by omega
    have e2 : (64 * x + y) % 64 = y := by omega
    rw [e1, e2]; simp
  · have e1 : (64 * x + y) / 64 = x := by omega
    have e2 : (64 * x + y) % 64 = y := by omega
    rw [e1, e2, h]; rfl
structure Good (m m' : Nat) (s : List El × List (Nat × Nat)) (B : Nat) : Prop where
  len : s.1.length + cnt s.2 ≤ B
  el : ∀ e ∈ s.1, (e.1 < 2 ^ m ∧ e.2.1 < 2 ^ m') ∧ e.2.2.length + cnt s.2 ≤ B
theorem Good.inn {m m' B : Nat} (hm : m ≤ 6) (hm' : m' ≤ 6) {f g : Nat → Int → Nat} (hf : ∀ s lab, s < 2 ^ m → f s lab < 2 ^ m) (hg : ∀ s lab, s < 2 ^ m' → g s lab < 2 ^ m') {e : El} {s : List El × List (Nat × Nat)} (h : Good m m' s B)
    (he : (e.1 < 2 ^ m ∧ e.2.1 < 2 ^ m') ∧ e.2.2.length + cnt s.2 ≤ B) (lab : Int) : Good m m' (inn f g e s lab) B ∧ cnt (Am.inn f g e s lab).2 ≤ cnt s.2 ∧ (Am.inn f g e s lab).1.length + cnt (Am.inn f g e s lab).2 ≤ s.1.length + cnt s.2 := by
  unfold Am.inn
  cases h1 : decide (f e.1 lab = 0) with
  | true => exact ⟨h, Nat.le_refl _, Nat.le_refl _⟩
  | false =>
    cases h2 : s.2.contains (f e.1 lab, g e.2.1 lab) with
    | true => exact ⟨h, Nat.le_refl _, Nat.le_refl _⟩
    | false =>
      have hx := hf e.1 lab he.1.1
      have hy := hg e.2.1 lab he.1.2
      have hc := cnt_add (lt64 hm hx) (lt64 hm' hy) h2
      simp only [Bool.not_false, Bool.and_self, cond_true]
      refine ⟨⟨?_, fun e' he' => ?_⟩, ?_, ?_⟩
      · have := h.len; simp only [List.length_append, List.length_cons, List.length_nil]; omega
      · rcases List.mem_append.1 he' with h' | h'
        · have := h.el e' h'; exact ⟨this.1, Nat.le_trans (Nat.add_le_add_left (Nat.le_of_lt hc) _) this.2⟩
        · rw [List.mem_singleton] at h'; subst h'
          refine ⟨⟨hx, hy⟩, ?_⟩
          have := he.2; simp only [List.length_append, List.length_cons, List.length_nil]; omega
      · omega
      · simp only [List.length_append, List.length_cons, List.length_nil]; omega
def look (f g : Nat → Int → Nat) : Nat → List El → List (Nat × Nat) → Option (List Int)
  | 0, _, _ => none
  | _ + 1, [], _ => none
  | k + 1, e :: r, kn => bif decide (e.2.1 = 0) then some e.2.2 else
      look f g k ([1, 2, 3].foldl (inn f g e) (e :: r, kn)).1.tail ([1, 2, 3].foldl (inn f g e) (e :: r, kn)).2
end Go.Am

set_option maxRecDepth 100000
set_option linter.unusedVariables false
set_option linter.unusedSimpArgs false
namespace Go.Am
open Go
theorem zeqN (k : Nat) : Ar.std.zeq (k : Int) 0 = decide (k = 0) := by rw [std_zeq, zero_nat]
theorem R23L0_eq {m m' : Nat} {l l' : List St3} (S : Sys m l) (S' : Sys m' l') (e : El) (s0 : List El × List (Nat × Nat)) (h0 : Good m m' s0 5000) (he : (e.1 < 2 ^ m ∧ e.2.1 < 2 ^ m') ∧ e.2.2.length + cnt s0.2 ≤ 5000) :
    iter (R23L0 Ar.std (FR m l (tF m l)) (FR m' l' (tF m' l')) (e.1 : Int) (e.2.1 : Int) (eInt e.2.2)) (eLn s0.1, 1, metP s0.2) =
      some (eLn ([1, 2, 3].foldl (inn (comesN m l) (comesN m' l') e) s0).1, metP ([1, 2, 3].foldl (inn (comesN m l) (comesN m' l') e) s0).2) := by
  have key := iter_foldI (step := R23L0 Ar.std (FR m l (tF m l)) (FR m' l' (tF m' l')) (e.1 : Int) (e.2.1 : Int) (eInt e.2.2)) [(1 : Int), 2, 3]
    (fun (s : List El × List (Nat × Nat)) i => (eLn s.1, ((i + 1 : Nat) : Int), metP s.2)) (inn (comesN m l) (comesN m' l') e) (fun s => (eLn s.1, metP s.2)) (fun s => Good m m' s 5000 ∧ e.2.2.length + cnt s.2 ≤ 5000)
    (fun i lab s hlab hi hI => by
      obtain ⟨hG, hE⟩ := hI
      have hn := Good.inn S.le S'.le (f := comesN m l) (g := comesN m' l') (fun s lab h => comesN_ltB S.sb h lab) (fun s lab h => comesN_ltB S'.sb h lab) hG ⟨he.1, hE⟩ lab
      refine ⟨?_, hn.1, by have := hn.2.1; omega⟩
      have hi3 : i < 3 := hi
      have hl : lab = ((i + 1 : Nat) : Int) := by
        rcases i with _ | _ | _ | i
        · cases hlab; rfl
        · cases hlab; rfl
        · cases hlab; rfl
        · omega
      subst hl
      have hle : Ar.std.zle ((i + 1 : Nat) : Int) 3 = true := by rw [std_zle]; exact decide_eq_true (by omega)
      have hap : ap Ar.std (eInt e.2.2) [.int .i64 ((i + 1 : Nat) : Int)] = some (eInt (e.2.2 ++ [((i + 1 : Nat) : Int)])) := ap_enc1 rfl (by omega)
      have hF := R68a_F S (by omega : i + 1 < 4) he.1.1
      have hF' := R68a_F S' (by omega : i + 1 < 4) he.1.2
      unfold R23L0
      dsimp only
      rw [hle, cond_true, hF, bsome, R68c_is, hF', bsome, R67_eq _ (by omega), bsome, hap, bsome, zeqN, inc (by omega : i + 1 < 9) (by decide)]
      unfold inn
      generalize comesN m l e.1 ((i + 1 : Nat) : Int) = x
      generalize comesN m' l' e.2.1 ((i + 1 : Nat) : Int) = y
      have hk : D.agg [.int .u8 (x : Int), .int .u8 (y : Int)] = keyP (x, y) := rfl
      rw [hk, lk_metP]
      have hap2 : ap Ar.std (eLn s.1) [.agg [.int .u8 (x : Int), .int .u8 (y : Int), .list 1 (eInt (e.2.2 ++ [((i + 1 : Nat) : Int)]))]] = some (eLn (s.1 ++ [(x, y, e.2.2 ++ [((i + 1 : Nat) : Int)])])) := by
        have := hG.len
        have h2 : ap Ar.std (enc cEl (s.1.map eEl)) [.agg [.int .u8 (x : Int), .int .u8 (y : Int), .list 1 (eInt (e.2.2 ++ [((i + 1 : Nat) : Int)]))]] = some (enc cEl (s.1.map eEl ++ [eEl (x, y, e.2.2 ++ [((i + 1 : Nat) : Int)])])) := ap_enc1 rfl (by rw [List.length_map]; omega)
        rw [h2]; simp only [eLn, List.map_append, List.map_cons, List.map_nil]
      cases hx : decide (x = 0) with
      | true => rfl
      | false =>
        cases hc : s.2.contains (x, y) with
        | true => rfl
        | false =>
          have hR : (bif !false && !false then (s.1 ++ [(x, y, e.2.2 ++ [((i + 1 : Nat) : Int)])], s.2 ++ [(x, y)]) else s) = (s.1 ++ [(x, y, e.2.2 ++ [((i + 1 : Nat) : Int)])], s.2 ++ [(x, y)]) := rfl
          rw [hR, cond_false, cond_false, bsome, Option.elim_none, bsome, cond_true, hap2, bsome, bsome, metP_snoc, ← std_mput])
    (fun s _ => by
      unfold R23L0
      dsimp only
      rw [show Ar.std.zle (([(1 : Int), 2, 3].length + 1 : Nat) : Int) 3 = false from by rw [std_zle]; decide, cond_false]) s0 ⟨h0, he.2⟩
  exact key
end Go.Am

set_option maxRecDepth 100000
set_option linter.unusedVariables false
set_option linter.unusedSimpArgs false
namespace Go.Am
open Go
theorem inn_fold {m m' : Nat} (hm : m ≤ 6) (hm' : m' ≤ 6) {f g : Nat → Int → Nat} (hf : ∀ s lab, s < 2 ^ m → f s lab < 2 ^ m) (hg : ∀ s lab, s < 2 ^ m' → g s lab < 2 ^ m') {e : El} (he1 : e.1 < 2 ^ m ∧ e.2.1 < 2 ^ m') :
    ∀ (labs : List Int) (s : List El × List (Nat × Nat)), Good m m' s 5000 → e.2.2.length + cnt s.2 ≤ 5000 →
      Good m m' (labs.foldl (inn f g e) s) 5000 ∧ cnt (labs.foldl (inn f g e) s).2 ≤ cnt s.2 ∧ (labs.foldl (inn f g e) s).1.length + cnt (labs.foldl (inn f g e) s).2 ≤ s.1.length + cnt s.2 ∧ s.1.length ≤ (labs.foldl (inn f g e) s).1.length
  | [], s, h, he => ⟨h, Nat.le_refl _, Nat.le_refl _, Nat.le_refl _⟩
  | lab :: labs, s, h, he => by
    have h1 := Good.inn hm hm' hf hg h ⟨he1, he⟩ lab
    have h2 := inn_fold hm hm' hf hg he1 labs (inn f g e s lab) h1.1 (by have := h1.2.1; omega)
    have h3 : s.1.length ≤ (inn f g e s lab).1.length := by
      unfold inn
      cases (!decide (f e.1 lab = 0) && !s.2.contains (f e.1 lab, g e.2.1 lab)) with
      | false => exact Nat.le_refl _
      | true => simp
    rw [List.foldl_cons]
    exact ⟨h2.1, Nat.le_trans h2.2.1 h1.2.1, Nat.le_trans h2.2.2.1 h1.2.2, Nat.le_trans h3 h2.2.2.2⟩
theorem look_eq {m m' : Nat} {l l' : List St3} (S : Sys m l) (S' : Sys m' l') : ∀ (k : Nat) (line : List El) (kn : List (Nat × Nat)), Good m m' (line, kn) 5000 → 2 * cnt kn + line.length < k →
    (look (comesN m l) (comesN m' l') k line kn = none ∧ ∃ z, iter (R23L1 Ar.std (FR m l (tF m l)) (FR m' l' (tF m' l'))) (eLn line, metP kn) = some (.inl z)) ∨
    ∃ t z, look (comesN m l) (comesN m' l') k line kn = some t ∧ t.length ≤ 5000 ∧ iter (R23L1 Ar.std (FR m l (tF m l)) (FR m' l' (tF m' l'))) (eLn line, metP kn) = some (.inr (eInt t, z))
  | 0, line, kn, _, hk => by omega
  | k + 1, [], kn, _, _ => .inl ⟨rfl, metP kn, iter_inr (by
      unfold R23L1
      dsimp only
      rw [show Ar.std.zlt 0 (Ar.std.len (eLn [])) = false from rfl, cond_false])⟩
  | k + 1, e :: r, kn, hG, hk => by
    have hE := hG.el e (by simp)
    have hlt : Ar.std.zlt 0 (Ar.std.len (eLn (e :: r))) = true := by rw [std_zlt, len_enc]; exact decide_eq_true (by simp)
    have hg : gc Ar.std cEl (eLn (e :: r)) 0 = some ((e.1 : Int), (e.2.1 : Int), eInt e.2.2) := gc_enc rfl
    unfold look
    by_cases hy : e.2.1 = 0
    · refine .inr ⟨e.2.2, metP kn, by rw [decide_eq_true hy]; rfl, by have := hE.2; omega, iter_inr ?_⟩
      unfold R23L1
      dsimp only
      rw [hlt, cond_true, hg, bsome]
      dsimp only
      rw [zeqN, decide_eq_true hy, cond_true]
    · rw [decide_eq_false hy, cond_false]
      have hi := R23L0_eq S S' e (e :: r, kn) hG hE
      have hfold := inn_fold S.le S'.le (f := comesN m l) (g := comesN m' l') (fun s lab h => comesN_ltB S.sb h lab) (fun s lab h => comesN_ltB S'.sb h lab) hE.1 [1, 2, 3] (e :: r, kn) hG hE.2
      generalize hs : [1, 2, 3].foldl (inn (comesN m l) (comesN m' l') e) (e :: r, kn) = s at hi hfold
      obtain ⟨f1, f2, f3, f4⟩ := hfold
      have hlen : 1 ≤ s.1.length := Nat.le_trans (by simp) f4
      have hsl : sl Ar.std (eLn s.1) 1 (Ar.std.len (eLn s.1)) = some (eLn s.1.tail) := by
        rw [len_enc, sl_enc (by decide) (by rw [List.length_map]; omega) (by omega)]
        congr 1
        rw [show ((1 : Int).toNat) = 1 from rfl, List.length_map, Int.toNat_natCast, List.take_of_length_le (by simp), List.drop_one, ← List.map_tail]
      have hstep : R23L1 Ar.std (FR m l (tF m l)) (FR m' l' (tF m' l')) (eLn (e :: r), metP kn) = some (.inl (eLn s.1.tail, metP s.2)) := by
        unfold R23L1
        dsimp only
        rw [hlt, cond_true, hg, bsome]
        dsimp only
        rw [zeqN, decide_eq_false hy, cond_false, hi, bsome]
        dsimp only
        rw [hsl, bsome]
      rw [iter_inl hstep]
      have hG' : Good m m' (s.1.tail, s.2) 5000 := ⟨by have := f1.len; simp only [List.length_tail]; omega, fun e' he' => f1.el e' (List.mem_of_mem_tail he')⟩
      exact look_eq S S' k s.1.tail s.2 hG' (by
        simp only [List.length_tail]
        simp only at f2 f3
        simp only [List.length_cons] at f3 hk
        omega)
def shw (n : Int) (l : List St3) (n' : Int) (l' : List St3) : List Int × Int :=
  bif vSys n l then bif vSys n' l' then (look (comesN n l) (comesN n' l') 9000 [(quietN n l 1, quietN n' l' 1, [])] [(quietN n l 1, quietN n' l' 1)]).elim ([], 5) (fun t => (t, 0)) else ([], 50) else ([], 50)
theorem R23_eq (n n' : Int) (l l' : List St3) (hl : l.length < Lg) (hl' : l'.length < Lg) : R23 Ar.std n (eSt l) n' (eSt l') = some (eInt (shw n l n' l').1, (shw n l n' l').2) := by
  unfold R23 shw
  rw [R70_eq n n' l l' hl hl', bsome]
  cases hv : vSys n l with
  | false => rfl
  | true =>
    cases hv' : vSys n' l' with
    | false => rfl
    | true =>
      obtain ⟨m, rfl, S⟩ := Sys.of hv
      obtain ⟨m', rfl, S'⟩ := Sys.of hv'
      have h1 := R62_eq S [] (by decide) rfl
      have h2 := R62_eq S' [] (by decide) rfl
      have b1 := behindN_ltB S []
      have b2 := behindN_ltB S' []
      have hc := cnt_le [(behindN m l [], behindN m' l' [])]
      have hG : Good m m' ([(behindN m l [], behindN m' l' [], [])], [(behindN m l [], behindN m' l' [])]) 5000 := ⟨by simp only [List.length_cons, List.length_nil]; omega, fun e he => by
        rw [List.mem_singleton] at he; subst he; exact ⟨⟨b1, b2⟩, by simp only [List.length_nil]; omega⟩⟩
      have hk := look_eq S S' 9000 _ _ hG (by simp only [List.length_cons, List.length_nil]; omega)
      rw [cond_true, cond_true, cond_true, cond_true]
      show (R62 Ar.std (eInt []) (FR m l (tF m l))).bind _ = _
      rw [h1, bsome, R62a_is]
      change (R62 Ar.std (eInt []) (FR m' l' (tF m' l'))).bind _ = _
      rw [h2, bsome]
      change (iter (R23L1 Ar.std (FR m l (tF m l)) (FR m' l' (tF m' l'))) (eLn [(behindN m l [], behindN m' l' [], [])], metP [(behindN m l [], behindN m' l' [])])).bind _ = _
      rcases hk with ⟨h3, z, h4⟩ | ⟨t, z, h3, h5, h4⟩
      · rw [h4, bsome]
        have h3' : look (comesN m l) (comesN m' l') 9000 [(quietN m l 1, quietN m' l' 1, [])] [(quietN m l 1, quietN m' l' 1)] = none := h3
        rw [h3']; rfl
      · rw [h4, bsome]
        have h3' : look (comesN m l) (comesN m' l') 9000 [(quietN m l 1, quietN m' l' 1, [])] [(quietN m l 1, quietN m' l' 1)] = some t := h3
        rw [h3']; rfl
def exC : List St3 := [(0, 1, 1), (1, 2, 0)]
def exA : List St3 := [(0, 1, 1), (1, 2, 0), (1, 3, 0)]
theorem shw_ex : shw 2 exA 2 exC = ([1, 3], 0) := by decide +kernel
theorem R27_same (a : List Int) (ha : a.length < Lg) : R27 Ar.std (eInt a) (eInt a) = some true := by
  have key := iter_any (step := R27L0 Ar.std (eInt a) (eInt a)) a (fun _ => false) (.inr ()) (.inl ()) (fun i x hx hi => by
    show (bif Ar.std.zlt (i : Int) (Ar.std.len (eInt a)) then _ else _) = _
    rw [eInt, ltS hi, cond_true, gt_enc hx, bsome, bsome, std_zeq, decide_eq_true rfl, cond_true, inc hi ha]; rfl) (by
    show (bif Ar.std.zlt (a.length : Int) (Ar.std.len (eInt a)) then _ else _) = _
    rw [eInt, geS, cond_false])
  have hany : (a.any fun _ => false) = false := by simp
  rw [hany] at key
  unfold R27
  rw [std_zeq, decide_eq_true rfl, cond_true, key]; rfl
theorem R17_eq : R17 Ar.std = some true := by
  have h := R23_eq 2 2 exA exC (by decide) (by decide)
  rw [shw_ex] at h
  unfold R17
  change (R23 Ar.std 2 (eSt exA) 2 (eSt exC)).bind _ = _
  rw [h, bsome]
  have h2 := R27_same [1, 3] (by decide)
  show ((bif Ar.std.zeq 0 0 then (R27 Ar.std (eInt [1, 3]) (eInt [1, 3])).bind _ else _).bind _) = _
  rw [h2]; rfl
end Go.Am

set_option maxRecDepth 100000
set_option linter.unusedVariables false
set_option linter.unusedSimpArgs false
namespace Go.Am
open Go
end Go.Am

set_option maxRecDepth 100000
set_option linter.unusedVariables false
set_option linter.unusedSimpArgs false
namespace Go.Am
open Go
theorem R16_eq (n : Int) (l : List St3) : R16 Ar.std n (eSt l) = some (decide ((100 : Int) < l.length)) := by unfold R16; rw [std_zlt, len_enc]
theorem zeqS (x : Int) : Ar.std.zeq x x = true := by rw [std_zeq]; simp
end Go.Am

set_option maxRecDepth 100000
set_option linter.unusedVariables false
set_option linter.unusedSimpArgs false
namespace Go.Am
open Go
end Go.Am

set_option maxRecDepth 100000
set_option linter.unusedVariables false
set_option linter.unusedSimpArgs false
namespace Go.Am
open Go
def Wi (a b : Nat) : Prop := a ||| b = b
theorem Wi.refl (a : Nat) : Wi a a := Nat.or_self a
theorem Wi.trans {a b c : Nat} (h : Wi a b) (h' : Wi b c) : Wi a c := by
  unfold Wi at *; rw [← h', ← Nat.or_assoc, h]
theorem Wi.left (a b : Nat) : Wi a (a ||| b) := by unfold Wi; rw [← Nat.or_assoc, Nat.or_self]
theorem Wi.right (a b : Nat) : Wi b (a ||| b) := by rw [Nat.or_comm]; exact Wi.left b a
theorem Wi.or {a b c : Nat} (h : Wi a c) (h' : Wi b c) : Wi (a ||| b) c := by unfold Wi at *; rw [Nat.or_assoc, h', h]
theorem Wi.test {a b j : Nat} (h : Wi a b) (ha : a.testBit j = true) : b.testBit j = true := by rw [← h, Nat.testBit_or, ha]; rfl
theorem Wi.le {a b : Nat} (h : Wi a b) : a ≤ b := by have := Nat.left_le_or (n := a) (m := b); rw [h] at this; exact this
section
variable {n : Nat} {f : Nat → Nat} (hs : ∀ s, Wi s (f s)) (hb : ∀ s, s < 2 ^ n → f s < 2 ^ n)
include hb
include hs
end
def rr (l : List St3) (s : Nat) : Nat := [(0 : Int), 1, 2, 3].foldl (fun t lab => t ||| stepN l t lab) s
end Go.Am

set_option maxRecDepth 100000
set_option linter.unusedVariables false
set_option linter.unusedSimpArgs false
namespace Go.Am
open Go
end Go.Am

set_option maxRecDepth 100000
set_option linter.unusedVariables false
set_option linter.unusedSimpArgs false
namespace Go.Am
open Go
end Go.Am

set_option maxRecDepth 100000
set_option linter.unusedVariables false
set_option linter.unusedSimpArgs false
namespace Go.Am
open Go
section
variable {m : Nat} {l : List St3} (S : Sys m l) {ls : List Nat} (h6 : ∀ a ∈ ls, a < 6) (hln : ls.length ≤ 6)
include S h6 hln
end
end Go.Am

set_option maxRecDepth 100000
set_option linter.unusedVariables false
set_option linter.unusedSimpArgs false
namespace Go.Am
open Go
end Go.Am

set_option maxRecDepth 100000
set_option linter.unusedVariables false
set_option linter.unusedSimpArgs false
namespace Go.Am
open Go
end Go.Am

set_option maxRecDepth 100000
set_option linter.unusedVariables false
set_option linter.unusedSimpArgs false
namespace Go.Am
open Go
end Go.Am

set_option maxRecDepth 100000
set_option linter.unusedVariables false
set_option linter.unusedSimpArgs false
namespace Go.Am
open Go
def badP (l : List St3) (i : Nat) : Bool := (l[i]?.map fun x => decide (x.2.1 = 0) || (l.take i).any fun y => decide (x.1 = y.1) && decide (x.2.1 = y.2.1)).getD false
def plainD (l : List St3) : Bool := !(List.range l.length).any (badP l)
end Go.Am

set_option maxRecDepth 100000
set_option linter.unusedVariables false
set_option linter.unusedSimpArgs false
namespace Go.Am
open Go
abbrev SeeS := List Nat × List St3
def seeL (n : Int) (l : List St3) (i : Nat) (s : SeeS) (lab : Int) : SeeS :=
  bif decide (comesN n l (s.1.getD i 0) lab = 0) then s
  else (s.1.findIdx? fun y => decide (comesN n l (s.1.getD i 0) lab = y)).elim
    (s.1 ++ [comesN n l (s.1.getD i 0) lab], s.2 ++ [((i : Int), lab, (s.1.length : Int))]) (fun k => (s.1, s.2 ++ [((i : Int), lab, (k : Int))]))
def seeR (n : Int) (l : List St3) (i : Nat) (s : SeeS) : SeeS := [1, 2, 3].foldl (seeL n l i) s
def c64 (ln : List Nat) : Nat := (List.range 64).countP fun k => !ln.contains k
structure SeeI (m : Nat) (i : Nat) (s : SeeS) (c : Nat) : Prop where
  len : s.1.length + c64 s.1 ≤ 65
  lt : ∀ x ∈ s.1, x < 2 ^ m
  stp : s.2.length ≤ c
end Go.Am

set_option maxRecDepth 100000
set_option linter.unusedVariables false
set_option linter.unusedSimpArgs false
namespace Go.Am
open Go
end Go.Am

set_option maxRecDepth 100000
set_option linter.unusedVariables false
set_option linter.unusedSimpArgs false
namespace Go.Am
open Go
theorem SeeI.next {m i : Nat} {s : SeeS} {c : Nat} (h : SeeI m i s c) : SeeI m (i + 1) s c := ⟨h.len, h.lt, h.stp⟩
end Go.Am

set_option maxRecDepth 100000
set_option linter.unusedVariables false
set_option linter.unusedSimpArgs false
namespace Go.Am
open Go
theorem start {m : Nat} {l : List St3} (S : Sys m l) : SeeI m 0 ([quietN m l 1], []) (3 * 0) := by
  have hq : quietN (m : Int) l 1 < 2 ^ m := quietN_ltB S.sb (Nat.one_lt_two_pow (by have := S.pos; omega))
  refine ⟨?_, fun x hx => by rw [List.mem_singleton] at hx; subst hx; exact hq, Nat.le_refl _⟩
  have := List.countP_le_length (p := fun k => !([quietN (m : Int) l 1] : List Nat).contains k) (l := List.range 64)
  simp only [List.length_range] at this
  show 1 + c64 [quietN (m : Int) l 1] ≤ 65
  unfold c64; omega
theorem R30_same (x : Int) (l : List St3) (hl : l.length < Lg) : R30 Ar.std x (eSt l) x (eSt l) = some true := by
  have key := iter_any (step := R30L0 Ar.std (eSt l) (eSt l)) l (fun _ => false) (.inr ()) (.inl ()) (fun i r hx hi => by
    unfold R30L0
    rw [ltS hi, cond_true, gt_enc hx, bsome]
    dsimp only
    rw [bsome, deq_st, decide_eq_true rfl, cond_true, inc hi hl]; rfl) (by
    unfold R30L0
    rw [geS, cond_false])
  have hany : (l.any fun _ => false) = false := by simp
  rw [hany] at key
  unfold R30
  rw [zeqS, cond_true, zeqS, Bool.not_true, bsome, cond_false, key]; rfl
end Go.Am

set_option maxRecDepth 100000
set_option linter.unusedVariables false
set_option linter.unusedSimpArgs false
namespace Go.Am
open Go
def num (w : List Int) : Nat := w.foldl (fun n a => 4 * n + a.toNat) 0
theorem num_snoc (w : List Int) (a : Int) : num (w ++ [a]) = 4 * num w + a.toNat := by simp [num, List.foldl_append]
def Lab (w : List Int) : Prop := ∀ a ∈ w, 1 ≤ a ∧ a ≤ 3
theorem Lab.snoc {w : List Int} {a : Int} : Lab (w ++ [a]) ↔ Lab w ∧ (1 ≤ a ∧ a ≤ 3) := by
  constructor
  · intro h; exact ⟨fun b hb => h b (by simp [hb]), h a (by simp)⟩
  · rintro ⟨h1, h2⟩ b hb
    rcases List.mem_append.1 hb with hb | hb
    · exact h1 b hb
    · rw [List.mem_singleton] at hb; subst hb; exact h2
def pr (f g : Nat → Int → Nat) (q : Nat × Nat) (w : List Int) : Nat × Nat := (w.foldl f q.1, w.foldl g q.2)
theorem pr_snoc (f g : Nat → Int → Nat) (q : Nat × Nat) (w : List Int) (a : Int) : pr f g q (w ++ [a]) = (f (pr f g q w).1 a, g (pr f g q w).2 a) := by simp [pr, List.foldl_append]
section
variable {f g : Nat → Int → Nat} {q : Nat × Nat}
def Done (f g : Nat → Int → Nat) (q : Nat × Nat) (R : List Int → Prop) (r : List Int) (b : Int) : Prop :=
  (pr f g q (r ++ [b])).1 = 0 ∨ ∃ r', R r' ∧ pr f g q r' = pr f g q (r ++ [b]) ∧ num r' ≤ num (r ++ [b])
def Kn (pro : List (List Int)) (line : List El) (r : List Int) : Prop := r ∈ pro ∨ ∃ e ∈ line, e.2.2 = r
structure LI (f g : Nat → Int → Nat) (q : Nat × Nat) (pro : List (List Int)) (line : List El) (kn : List (Nat × Nat)) : Prop where
  el : ∀ e ∈ line, (e.1, e.2.1) = pr f g q e.2.2 ∧ e.1 ≠ 0 ∧ Lab e.2.2
  srt : line.Pairwise fun a b => num a.2.2 < num b.2.2
  prn : ∀ p ∈ pro, (pr f g q p).2 ≠ 0 ∧ ∀ e ∈ line, num p < num e.2.2
  root : Kn pro line []
  kn1 : ∀ p ∈ kn, ∃ r, Kn pro line r ∧ pr f g q r = p
  don : ∀ p ∈ pro, ∀ b : Int, 1 ≤ b → b ≤ 3 → Done f g q (Kn pro line) p b
structure LJ (f g : Nat → Int → Nat) (q : Nat × Nat) (pro : List (List Int)) (e : El) (a : Nat) (s : List El × List (Nat × Nat)) : Prop extends LI f g q pro s.1 s.2 where
  hd : s.1.head? = some e
  ge : ∀ e' ∈ s.1, num e'.2.2 ≤ 4 * num e.2.2 + a
  de : ∀ b : Int, 1 ≤ b → b ≤ a → Done f g q (Kn pro s.1) e.2.2 b
theorem Kn.mono {pro : List (List Int)} {line : List El} {r : List Int} (e : El) (h : Kn pro line r) : Kn pro (line ++ [e]) r := by
  rcases h with h | ⟨e', h1, h2⟩
  · exact .inl h
  · exact .inr ⟨e', by simp [h1], h2⟩
theorem Done.mono {R R' : List Int → Prop} (hR : ∀ r, R r → R' r) {r : List Int} {b : Int} (h : Done f g q R r b) : Done f g q R' r b := by
  rcases h with h | ⟨r', h1, h2, h3⟩
  · exact .inl h
  · exact .inr ⟨r', hR r' h1, h2, h3⟩
theorem LJ.step {pro : List (List Int)} {e : El} {a : Nat} {s : List El × List (Nat × Nat)} (h : LJ f g q pro e a s) (ha : a < 3) : LJ f g q pro e (a + 1) (inn f g e s ((a + 1 : Nat) : Int)) := by
  have he : e ∈ s.1 := List.mem_of_mem_head? (by rw [h.hd]; rfl)
  obtain ⟨ep, ex, el⟩ := h.el e he
  have hps : pr f g q (e.2.2 ++ [((a + 1 : Nat) : Int)]) = (f e.1 ((a + 1 : Nat) : Int), g e.2.1 ((a + 1 : Nat) : Int)) := by
    rw [pr_snoc, ← ep]
  have hnum : num (e.2.2 ++ [((a + 1 : Nat) : Int)]) = 4 * num e.2.2 + (a + 1) := by rw [num_snoc]; simp
  have hprn : ∀ p ∈ pro, num p < num e.2.2 := fun p hp => (h.prn p hp).2 e he
  have last : ∀ {s' : List El × List (Nat × Nat)}, (∀ r, Kn pro s.1 r → Kn pro s'.1 r) → Done f g q (Kn pro s'.1) e.2.2 ((a + 1 : Nat) : Int) → ∀ b : Int, 1 ≤ b → b ≤ ((a + 1 : Nat) : Int) → Done f g q (Kn pro s'.1) e.2.2 b := by
    intro s' hm hl b hb1 hb2
    by_cases hb : b = ((a + 1 : Nat) : Int)
    · subst hb; exact hl
    · exact (h.de b hb1 (by omega)).mono hm
  unfold inn
  cases h1 : decide (f e.1 ((a + 1 : Nat) : Int) = 0) with
  | true =>
    refine { h with ge := fun e' he' => by have := h.ge e' he'; omega, de := last (fun _ h => h) (.inl ?_) }
    rw [hps]; exact of_decide_eq_true h1
  | false =>
    have hx0 : f e.1 ((a + 1 : Nat) : Int) ≠ 0 := of_decide_eq_false h1
    cases h2 : s.2.contains (f e.1 ((a + 1 : Nat) : Int), g e.2.1 ((a + 1 : Nat) : Int)) with
    | true =>
      refine { h with ge := fun e' he' => by have := h.ge e' he'; omega, de := last (fun _ h => h) (.inr ?_) }
      obtain ⟨r, hr, hrp⟩ := h.kn1 _ (List.contains_iff_mem.1 h2)
      refine ⟨r, hr, by rw [hrp, hps], ?_⟩
      rw [hnum]
      rcases hr with hr | ⟨e', he', rfl⟩
      · have := hprn r hr; omega
      · have := h.ge e' he'; omega
    | false =>
      simp only [Bool.not_false, Bool.and_self, cond_true]
      have hm : ∀ r, Kn pro s.1 r → Kn pro (s.1 ++ [(f e.1 ((a + 1 : Nat) : Int), g e.2.1 ((a + 1 : Nat) : Int), e.2.2 ++ [((a + 1 : Nat) : Int)])]) r := fun r hr => hr.mono _
      refine { el := fun e' he' => ?_, srt := ?_, prn := fun p hp => ⟨(h.prn p hp).1, fun e' he' => ?_⟩, root := hm _ h.root, kn1 := fun p hp => ?_, don := fun p hp b b1 b2 => (h.don p hp b b1 b2).mono hm, hd := ?_, ge := fun e' he' => ?_, de := last hm (.inr ⟨_, .inr ⟨_, List.mem_append.2 (.inr (List.mem_singleton.2 rfl)), rfl⟩, rfl, Nat.le_refl _⟩) }
      · rcases List.mem_append.1 he' with he' | he'
        · exact h.el e' he'
        · rw [List.mem_singleton] at he'; subst he'
          exact ⟨hps.symm, hx0, Lab.snoc.2 ⟨el, by omega, by omega⟩⟩
      · refine List.pairwise_append.2 ⟨h.srt, List.pairwise_singleton _ _, fun e1 he1 e2 he2 => ?_⟩
        rw [List.mem_singleton] at he2; subst he2
        show num e1.2.2 < num (e.2.2 ++ [((a + 1 : Nat) : Int)])
        rw [hnum]; have := h.ge e1 he1; omega
      · rcases List.mem_append.1 he' with he' | he'
        · exact (h.prn p hp).2 e' he'
        · rw [List.mem_singleton] at he'; subst he'
          show num p < num (e.2.2 ++ [((a + 1 : Nat) : Int)])
          rw [hnum]; have := hprn p hp; omega
      · rcases List.mem_append.1 hp with hp | hp
        · obtain ⟨r, hr, e'⟩ := h.kn1 p hp
          exact ⟨r, hm r hr, e'⟩
        · rw [List.mem_singleton] at hp; subst hp
          exact ⟨_, .inr ⟨_, List.mem_append.2 (.inr (List.mem_singleton.2 rfl)), rfl⟩, hps⟩
      · show (s.1 ++ [_]).head? = some e
        rw [List.head?_append, h.hd]; rfl
      · rcases List.mem_append.1 he' with he' | he'
        · have := h.ge e' he'; omega
        · rw [List.mem_singleton] at he'; subst he'
          show num (e.2.2 ++ [((a + 1 : Nat) : Int)]) ≤ _
          rw [hnum]; omega
end
end Go.Am

set_option maxRecDepth 100000
set_option linter.unusedVariables false
set_option linter.unusedSimpArgs false
namespace Go.Am
open Go
section
variable {f g : Nat → Int → Nat} {q : Nat × Nat}
end
end Go.Am

set_option maxRecDepth 100000
set_option linter.unusedVariables false
set_option linter.unusedSimpArgs false
namespace Go.Am
open Go
def q0 (m : Nat) (l : List St3) (m' : Nat) (l' : List St3) : Nat × Nat := (quietN m l 1, quietN m' l' 1)
end Go.Am

set_option maxRecDepth 100000
set_option linter.unusedVariables false
set_option linter.unusedSimpArgs false
namespace Go.Am
open Go
end Go.Am

set_option maxRecDepth 100000
set_option linter.unusedVariables false
set_option linter.unusedSimpArgs false
namespace Go.Am
open Go
abbrev RS := List (List Int) × List (Nat × Nat)
end Go.Am

set_option maxRecDepth 100000
set_option linter.unusedVariables false
set_option linter.unusedSimpArgs false
set_option linter.unusedSectionVars false
namespace Go.Am
open Go
section
variable {f g : Nat → Int → Nat} {q : Nat × Nat}
def elW (f g : Nat → Int → Nat) (q : Nat × Nat) (w : List Int) : El := ((pr f g q w).1, (pr f g q w).2, w)
def NZ (l : List El) : Prop := ∀ e ∈ l, e.2.1 ≠ 0
structure RI (f g : Nat → Int → Nat) (q : Nat × Nat) (m m' : Nat) (pro : List (List Int)) (ws : List (List Int)) (s : RS) : Prop where
  li : LI f g q pro ((ws ++ s.1).map (elW f g q)) s.2
  nz : NZ ((ws ++ s.1).map (elW f g q))
  good : Good m m' ((ws ++ s.1).map (elW f g q), s.2) 5000
  gen : ∀ x ∈ ws ++ s.1, ∀ h ∈ (ws ++ s.1).head?, num x ≤ 4 * num h
end
end Go.Am

set_option maxRecDepth 100000
set_option linter.unusedVariables false
set_option linter.unusedSimpArgs false
set_option linter.unusedSectionVars false
namespace Go.Am
open Go
end Go.Am

set_option maxRecDepth 100000
set_option linter.unusedVariables false
set_option linter.unusedSimpArgs false
set_option linter.unusedSectionVars false
namespace Go.Am
open Go
end Go.Am

set_option maxRecDepth 100000
set_option linter.unusedVariables false
set_option linter.unusedSimpArgs false
set_option linter.unusedSectionVars false
namespace Go.Am
open Go
theorem R126_eq (x : Int) : R126 Ar.std x = some false := by
  unfold R126
  rw [zeqS]; rfl
theorem R114_eq (x y : Int) : R114 Ar.std x y = some (if x < y then -1 else if y < x then 1 else 0) := by
  unfold R114
  rw [R126_eq, bsome, R126_eq, bsome, cond_false, cond_false, std_zlt, std_zlt]
  by_cases h : x < y
  · rw [decide_eq_true h, if_pos h]; rfl
  · rw [decide_eq_false h, if_neg h, cond_false]
    by_cases h' : y < x
    · rw [decide_eq_true h', if_pos h']; rfl
    · rw [decide_eq_false h', if_neg h']; rfl
end Go.Am
