/- Own text: RL2. -/
import Derived.Test.YtcnplegmmmobcaaAmBits
import Derived.Test.YtcnplegmmmobcaaGenp0
/- Sets of states as bits, and their lists. -/
set_option linter.unusedSimpArgs false
set_option maxRecDepth 100000
namespace Go.Am
open Go
theorem bits_i64 (n : Nat) (h : n < 2 ^ 62) : IntKind.i64.wrap (n : Int) = (n : Int) := i64w _ (by omega) (by omega)
theorem bv64 (n : Nat) (h : n < 2 ^ 62) : (BitVec.ofInt 64 (n : Int)).toNat = n := by
  rw [BitVec.toNat_ofInt]; omega
theorem and_i64 (a b : Nat) (ha : a < 2 ^ 62) (hb : b < 2 ^ 62) : bitsStd .and .i64 (a : Int) (b : Int) = ((a &&& b : Nat) : Int) := by
  have : (BitVec.ofInt IntKind.i64.bits (a : Int) &&& BitVec.ofInt IntKind.i64.bits (b : Int)).toNat = a &&& b := by
    rw [BitVec.toNat_and]; show (BitVec.ofInt 64 (a : Int)).toNat &&& (BitVec.ofInt 64 (b : Int)).toNat = _
    rw [bv64 a ha, bv64 b hb]
  simp only [bitsStd, this]
  exact bits_i64 _ (Nat.lt_of_le_of_lt Nat.and_le_left ha)
theorem or_i64 (a b : Nat) (ha : a < 2 ^ 62) (hb : b < 2 ^ 62) : bitsStd .or .i64 (a : Int) (b : Int) = ((a ||| b : Nat) : Int) := by
  have : (BitVec.ofInt IntKind.i64.bits (a : Int) ||| BitVec.ofInt IntKind.i64.bits (b : Int)).toNat = a ||| b := by
    rw [BitVec.toNat_or]; show (BitVec.ofInt 64 (a : Int)).toNat ||| (BitVec.ofInt 64 (b : Int)).toNat = _
    rw [bv64 a ha, bv64 b hb]
  simp only [bitsStd, this]
  exact bits_i64 _ (or_lt (n := 62) ha hb)
theorem shr_i64 (a i : Nat) (hi : i ≤ 62) : ((a : Int).fdiv (2 ^ (min ((i : Int).toNat) IntKind.i64.bits))) = ((a / 2 ^ i : Nat) : Int) := by
  have : min ((i : Int).toNat) IntKind.i64.bits = i := by show min _ 64 = i; omega
  have hp : (0 : Int) ≤ 2 ^ i := Int.pow_nonneg (by decide)
  rw [this, Int.fdiv_eq_ediv_of_nonneg _ hp]
  simp
theorem shl_i64 (i : Nat) (hi : i < 62) : IntKind.i64.wrap (1 * 2 ^ (min ((i : Int).toNat) IntKind.i64.bits)) = ((2 ^ i : Nat) : Int) := by
  have : min ((i : Int).toNat) IntKind.i64.bits = i := by show min _ 64 = i; omega
  rw [this]
  have h2 : (2 : Nat) ^ i < 2 ^ 62 := Nat.pow_lt_pow_right (by decide : 1 < 2) hi
  have := bits_i64 _ h2
  simpa using this
theorem has_i64 (m i : Nat) (hm : m < 2 ^ 62) (hi : i ≤ 62) : decide (bitsStd .and .i64 ((m : Int).fdiv (2 ^ (min ((i : Int).toNat) IntKind.i64.bits))) 1 = 1) = m.testBit i := by
  have hd : m / 2 ^ i < 2 ^ 62 := Nat.lt_of_le_of_lt (Nat.div_le_self _ _) hm
  have h1 : bitsStd .and .i64 ((m / 2 ^ i : Nat) : Int) 1 = ((m / 2 ^ i &&& 1 : Nat) : Int) := and_i64 _ 1 hd (by decide)
  rw [shr_i64 m i hi, h1, Nat.and_one_is_mod, Nat.testBit_eq_decide_div_mod_eq]
  rw [decide_eq_decide]; omega
/-- The states of a set, in ascending order. -/
def bl (m : Nat) : List Nat := (List.range 6).filter m.testBit
def cNs (l : List Nat) : List Int := l.map fun i : Nat => (i : Int)
def eInt (l : List Int) : List D := enc (cI .i64) l
theorem bl_step : ∀ m : Fin 64, m.val ≠ 0 → bl m.val = Lib.trailingZeros8 m.val :: bl (m.val &&& (m.val - 1)) := by decide +kernel
theorem bl_zero : bl 0 = [] := by decide
theorem bl_len (m : Nat) : (bl m).length ≤ 6 := by
  have := List.length_filter_le m.testBit (List.range 6); simpa [bl] using this
theorem mem_bl {m i : Nat} : i ∈ bl m ↔ i < 6 ∧ m.testBit i = true := by simp [bl]
theorem R76_eq (m : Nat) (hm : m < 64) : R76 Ar.std (m : Int) = some (eInt (cNs (bl m))) := by
  have key := iter_inv (step := R76L0 Ar.std) (fun s => ∃ (m : Nat) (acc : List Int), s = ((m : Int), eInt acc) ∧ m < 64 ∧ acc.length ≤ 100 ∧ acc.length + (bl m).length ≤ 100) (fun s => s.1.toNat) (fun s => s.2 ++ eInt (cNs (bl s.1.toNat)))
    (by
      rintro _ ⟨m, acc, rfl, h64, ha, hb⟩
      simp only [R76L0, std_zeq]
      cases h0 : decide ((m : Int) = 0) with
      | true =>
        have : m = 0 := by have := of_decide_eq_true h0; omega
        subst this
        exact .inr (by rw [cond_true]; exact congrArg (fun x => some (Sum.inr x)) (List.append_nil _).symm)
      | false =>
        have hne : m ≠ 0 := by have := of_decide_eq_false h0; omega
        have hs := bl_step ⟨m, h64⟩ hne
        simp only at hs
        have hlt : m &&& (m - 1) < m := Nat.lt_of_le_of_lt Nat.and_le_right (by omega)
        have htz : tz8 Ar.std (m : Int) = some ((Lib.trailingZeros8 m : Nat) : Int) := by
          have h1 : decide ((0 : Int) ≤ m) = true := decide_eq_true (by omega)
          have h2 : decide ((m : Int) ≤ 255) = true := decide_eq_true (by omega)
          simp only [tz8, std_zle, h1, h2, cond_true, Int.toNat_natCast]
        have hw : Ar.std.wrp .u8 (Ar.std.zsub (m : Int) 1) = ((m - 1 : Nat) : Int) := by
          simp only [std_wrp, std_zsub]; rw [u8w _ (by omega) (by omega)]; omega
        have hap : ap Ar.std (eInt acc) [.int .i64 ((Lib.trailingZeros8 m : Nat) : Int)] = some (eInt (acc ++ [((Lib.trailingZeros8 m : Nat) : Int)])) := ap_enc1 rfl (by omega)
        refine .inl ⟨(((m &&& (m - 1) : Nat) : Int), eInt (acc ++ [((Lib.trailingZeros8 m : Nat) : Int)])), ?_, ⟨_, _, rfl, by omega, ?_, ?_⟩, ?_, ?_⟩
        · rw [cond_false, htz]
          rw [bsome, hap, bsome, hw, std_bits, and_u8 m (m - 1) (by omega) (by omega)]
        · rw [hs] at hb; simp at hb ⊢; omega
        · rw [hs] at hb; simp at hb ⊢; omega
        · simp; omega
        · simp only [Int.toNat_natCast]; rw [hs]; simp only [eInt, enc, cNs, List.map_append, List.map_cons, List.map_nil, List.append_assoc, List.cons_append, List.nil_append]) ((m : Int), []) ⟨m, [], rfl, hm, by simp, by have := bl_len m; simp; omega⟩
  simp only [R76, key, bsome, Int.toNat_natCast, List.nil_append]
theorem R78_eq (m : Nat) (hm : m < 2 ^ 62) : R78 Ar.std (m : Int) = some (eInt (cNs (bl m))) := by
  have key := iter_pre (step := R78L0 Ar.std (m : Int)) (List.range 6) (fun l => l.filter m.testBit) (fun (s : List Nat) i => (eInt (cNs s), (i : Int))) (fun s => eInt (cNs s))
    (fun i a hi hl => by
      have hl' : i < 6 := by simpa using hl
      obtain rfl : i = a := by simpa [hl'] using hi
      have h1 : decide ((i : Int) < 6) = true := decide_eq_true (by omega)
      have h2 : decide ((i : Int) < 0) = false := decide_eq_false (by omega)
      have hw : IntKind.i64.wrap ((i : Int) + 1) = ((i + 1 : Nat) : Int) := wrap1 hl' (by decide)
      simp only [R78L0, std_zlt, h1, h2, cond_true, nk_false, bsome, std_zeq, std_bits, std_shr, has_i64 m i hm (by omega), std_wrp, std_zadd, hw, List.filter_append]
      cases hb : m.testBit i with
      | true =>
        have hlen : (cNs (((List.range 6).take i).filter m.testBit)).length < 4294967295 := by
          have h := List.length_filter_le m.testBit ((List.range 6).take i); simp [cNs] at h ⊢; omega
        have e : List.filter m.testBit [i] = [i] := by simp [hb]
        have hap : ap Ar.std (eInt (cNs (((List.range 6).take i).filter m.testBit))) [.int .i64 (i : Int)] = some (eInt (cNs (((List.range 6).take i).filter m.testBit) ++ [(i : Int)])) := ap_enc1 rfl hlen
        rw [cond_true, hap, e]
        simp only [bsome, cNs, List.map_append, List.map_cons, List.map_nil]
      | false =>
        have e : List.filter m.testBit [i] = [] := by simp [hb]
        rw [cond_false, e, List.append_nil]; rfl)
    (by
      have h1 : decide (((List.range 6).length : Int) < 6) = false := by decide
      simp only [R78L0, std_zlt, h1, cond_false])
  simp only [R78]
  exact (congrArg (fun o => o.bind fun v => some v) key)
end Go.Am

/- The refinement layer: systems, which are valid. -/
set_option maxRecDepth 100000
set_option linter.unusedVariables false
set_option linter.unusedSimpArgs false
namespace Go.Am
open Go
abbrev St3 := Int × Int × Int
abbrev cSt : Cod St3 := cG (lc (cI .i64) (lc (cI .i64) (l1 (cI .i64))))
abbrev eSt (l : List St3) : List D := enc cSt l
abbrev Lg : Nat := 9223372036854775808
theorem ltC {i n : Nat} (h : i < n) : decide ((i : Int) < (n : Int)) = true := by simp; omega
def btw (a b c : Int) : Bool := decide (a ≤ b) && decide (b ≤ c)
@[simp] theorem btw_true (a b c : Int) : btw a b c = true ↔ a ≤ b ∧ b ≤ c := by simp [btw]
theorem R65_eq (a b c : Int) : R65 Ar.std a b c = some (btw a b c) := by simp [R65, btw]
theorem snoc_indR {α : Type} {P : List α → Prop} (h0 : P []) (h1 : ∀ l a, P l → P (l ++ [a])) (l : List α) : P l := by
  have : ∀ n (l : List α), l.length = n → P l := by
    intro n
    induction n with
    | zero => intro l hl; rw [List.length_eq_zero_iff.1 hl]; exact h0
    | succ n ih =>
      intro l hl
      have hne : l ≠ [] := by intro e; subst e; simp at hl
      rw [← List.dropLast_concat_getLast hne]
      exact h1 _ _ (ih _ (by simp [hl]))
  exact this _ l rfl
/-- A step between states up to m. -/
def stOk (m : Int) (x : St3) : Bool := btw 0 x.1 m && (btw 0 x.2.2 m && btw 0 x.2.1 3)
def badSt (m : Int) (l : List St3) (i : Nat) : Bool := (l[i]?.map fun x => !stOk m x || (l.take i).contains x).getD false
theorem badSt_get {m : Int} {l : List St3} {i : Nat} {x : St3} (h : l[i]? = some x) : badSt m l i = (!stOk m x || (l.take i).contains x) := by simp [badSt, h]
def goodSys (m : Int) (l : List St3) : Bool := !(List.range l.length).any (badSt m l)
def vSys (n : Int) (l : List St3) : Bool := (btw 1 n 6 && decide ((l.length : Int) ≤ 24)) && goodSys (n - 1) l
def keyS (x : St3) : D := .agg [.int .i64 x.1, .int .i64 x.2.1, .int .i64 x.2.2]
theorem keyS_inj {x y : St3} : keyS x = keyS y ↔ x = y := by
  obtain ⟨a, b, c⟩ := x; obtain ⟨a', b', c'⟩ := y
  simp [keyS]
noncomputable def metS (pre : List St3) : List (D × D) := pre.foldl (fun m x => Am.mput m (keyS x) (.bool true)) []
theorem metS_snoc (pre : List St3) (x : St3) : metS (pre ++ [x]) = Am.mput (metS pre) (keyS x) (.bool true) := by simp [metS]
theorem metS_get (pre : List St3) (j : St3) : Am.mget (metS pre) (keyS j) = if pre.contains j then some (.bool true) else none := by
  induction pre using snoc_indR with
  | h0 => rfl
  | h1 l a ih =>
    rw [metS_snoc, mget_mput, ih]
    by_cases h : a = j
    · subst h; simp
    · rw [if_neg (fun e => h (keyS_inj.1 e))]
      have h3 : (l ++ [a]).contains j = l.contains j := by
        have h2 : (j == a) = false := by simpa using fun e : j = a => h e.symm
        simp only [List.contains_append, List.contains_cons, h2, List.contains_nil, Bool.or_false]
      rw [h3]
theorem lk_metS (pre : List St3) (j : St3) : lk Ar.std cB (metS pre) (keyS j) = some (bif pre.contains j then some true else none) := by
  have := metS_get pre j
  show (Am.mget (metS pre) (keyS j)).elim _ _ = _
  rw [this]
  cases pre.contains j <;> simp
theorem R79_eq (a n : Int) (l : List D) : R79 Ar.std a n l = some (btw 0 a (IntKind.i64.wrap (n - 1))) := by
  simp only [R79, R65_eq, bsome, std_wrp, std_zsub]
theorem R33_loop (n : Int) (l : List St3) (hl : l.length < Lg) :
    (goodSys (IntKind.i64.wrap (n - 1)) l = true ∧ iter (R33L0 Ar.std n (eSt l)) (0, []) = some (.inl (metS (l.take l.length)))) ∨ (goodSys (IntKind.i64.wrap (n - 1)) l = false ∧ ∃ z, iter (R33L0 Ar.std n (eSt l)) (0, []) = some (.inr z)) := by
  have hstop := iter_stop (step := R33L0 Ar.std n (eSt l)) l.length (fun i => ((i : Int), metS (l.take i))) (badSt (IntKind.i64.wrap (n - 1)) l) (metS (l.take l.length)) (fun i hi hb => by
    have hx := List.getElem?_eq_getElem hi
    generalize l[i] = x at hx
    rw [badSt_get hx]
    have hk : (D.agg [.int .i64 x.1, .int .i64 x.2.1, .int .i64 x.2.2]) = keyS x := rfl
    simp only [R33L0, std_zlt, len_enc, ltC hi, cond_true, gt_enc hx, bsome, R79_eq, R65_eq, hk, lk_metS, stOk, std_wrp, std_zadd, wrap1 hi hl, std_mput, take_succ_get hx, metS_snoc]
    cases btw 0 x.1 (IntKind.i64.wrap (n - 1)) with
    | false => exact ⟨fun h => (by cases h), fun _ => ⟨_, rfl⟩⟩
    | true =>
      cases btw 0 x.2.2 (IntKind.i64.wrap (n - 1)) with
      | false => exact ⟨fun h => (by cases h), fun _ => ⟨_, rfl⟩⟩
      | true =>
        cases btw 0 x.2.1 3 with
        | false => exact ⟨fun h => (by cases h), fun _ => ⟨_, rfl⟩⟩
        | true =>
          cases (l.take i).contains x with
          | true => exact ⟨fun h => (by cases h), fun _ => ⟨_, rfl⟩⟩
          | false => exact ⟨fun _ => rfl, fun h => (by cases h)⟩) (fun hb => by simp [R33L0])
  rcases hstop with ⟨h1, _, h3⟩ | ⟨h1, z, h3⟩
  · exact .inl ⟨by simp only [goodSys, h1, Bool.not_false], h3⟩
  · exact .inr ⟨by simp only [goodSys, h1, Bool.not_true], z, h3⟩
theorem R33_eq (n : Int) (l : List St3) (hl : l.length < Lg) : R33 Ar.std n (eSt l) = some (vSys n l) := by
  unfold R33
  have hb : btw 1 n 6 = true → IntKind.i64.wrap (n - 1) = n - 1 := fun h => by rw [btw_true] at h; exact i64w _ (by omega) (by omega)
  rcases R33_loop n l hl with ⟨h1, h2⟩ | ⟨h1, z, h2⟩
  · rw [h2]
    simp only [bsome, Sum.elim_inl, R65_eq, vSys]
    cases hn : btw 1 n 6 with
    | false => rfl
    | true => rw [hb hn] at h1; simp [h1]
  · rw [h2]
    simp only [bsome, Sum.elim_inr, vSys]
    cases hn : btw 1 n 6 with
    | false => rfl
    | true => rw [hb hn] at h1; simp [h1]
theorem R77_eq (n : Int) (l : List D) (a : Int) : R77 Ar.std n l a = some (decide (0 ≤ a) && decide (a < n)) := by
  simp [R77]
theorem deq_st (x y : St3) : Ar.std.deq [.int .i64 x.1, .int .i64 x.2.1, .int .i64 x.2.2] [.int .i64 y.1, .int .i64 y.2.1, .int .i64 y.2.2] = decide (x = y) := by
  obtain ⟨a, b, c⟩ := x; obtain ⟨a', b', c'⟩ := y
  simp [std_deq]
theorem R34_eq (n : Int) (l : List St3) (hl : l.length < Lg) : R34 Ar.std n (eSt l) = some (vSys n l) := by
  have e0 : ∀ i x, l[i]? = some x → i ≤ l.length → iter (R34L0 Ar.std x.1 x.2.1 x.2.2 (eSt (l.take i))) 0 = some (bif (l.take i).contains x then .inr () else .inl ()) := by
    intro i x hx hi
    rw [← List.any_beq']
    refine iter_any (l.take i) (fun y => y == x) _ _ (fun k d hd hk => ?_) ?_
    · have hk' : k < (l.take i).length := hk
      simp only [R34L0, std_zlt, len_enc, ltC hk', cond_true, gt_enc hd, bsome, deq_st, std_wrp, std_zadd, wrap1 hk' (Nat.lt_of_le_of_lt (by simp; omega : (l.take i).length ≤ l.length) hl)]
      by_cases h : x = d
      · subst h; simp
      · have h' : ¬ d = x := fun e => h e.symm
        have e1 : (d == x) = false := by simpa using h'
        rw [decide_eq_false h, e1]; rfl
    · simp [R34L0]
  have e : iter (R34L1 Ar.std n (eSt l)) 0 = some (bif (List.range l.length).any (badSt (n - 1) l) then .inr () else .inl ()) := by
    refine iter_rng l.length _ _ _ (fun i hi => ?_) ?_
    · have hx := List.getElem?_eq_getElem hi
      generalize l[i] = x at hx
      rw [badSt_get hx]
      have ha : ∀ a : Int, (decide (0 ≤ a) && decide (a < n)) = btw 0 a (n - 1) := fun a => by
        rw [btw]; congr 1; exact decide_eq_decide.2 (by omega)
      simp only [R34L1, std_zlt, len_enc, ltC hi, cond_true, gt_enc hx, bsome, R77_eq, ha, sl_encT (Nat.le_of_lt hi), e0 i x hx (Nat.le_of_lt hi), stOk, std_wrp, std_zadd, wrap1 hi hl, cond_some]
      have h3 : (bif decide (x.2.1 < 0) then true else decide (3 < x.2.1)) = !btw 0 x.2.1 3 := by
        by_cases h : x.2.1 < 0
        · have : ¬ (0 ≤ x.2.1) := by omega
          simp [btw, h, this]
        · have h' : 0 ≤ x.2.1 := by omega
          have : decide (3 < x.2.1) = !decide (x.2.1 ≤ 3) := by
            by_cases h2 : x.2.1 ≤ 3
            · simp [h2]
            · simp [h2]; omega
          simp [btw, h, h', this]
      cases h1 : btw 0 x.1 (n - 1) with
      | false => rfl
      | true =>
        cases h2 : btw 0 x.2.2 (n - 1) with
        | false => rfl
        | true =>
          simp only [h3, cond_true, Bool.true_and]
          cases btw 0 x.2.1 3 with
          | false => rfl
          | true => cases (l.take i).contains x <;> rfl
    · simp [R34L1]
  simp only [R34, std_zlt, len_enc, cond_some, bsome, e]
  have hv : vSys n l = ((!(bif decide (n < 1) then true else bif decide (6 < n) then true else decide (24 < (l.length : Int)))) && !(List.range l.length).any (badSt (n - 1) l)) := by
    unfold vSys goodSys
    congr 1
    by_cases h1 : n < 1
    · have : ¬ 1 ≤ n := by omega
      simp [btw, h1, this]
    · by_cases h2 : 6 < n
      · have h1' : 1 ≤ n := by omega
        have : ¬ n ≤ 6 := by omega
        simp [btw, h1, h2, this]
      · have h1' : 1 ≤ n := by omega
        have : n ≤ 6 := by omega
        by_cases h3 : (l.length : Int) ≤ 24
        · have h4 : ¬ 24 < (l.length : Int) := by omega
          simp only [btw, h1, h2, h1', this, h3, h4, decide_true, decide_false, cond_false, Bool.and_self, Bool.not_false]
        · have h4 : 24 < (l.length : Int) := by omega
          simp only [btw, h1, h2, h1', this, h3, h4, decide_true, decide_false, cond_false, Bool.and_false, Bool.not_true]
  rw [hv]
  cases (bif decide (n < 1) then true else bif decide (6 < n) then true else decide (24 < (l.length : Int))) with
  | true => rfl
  | false => cases (List.range l.length).any (badSt (n - 1) l) <;> rfl
end Go.Am
