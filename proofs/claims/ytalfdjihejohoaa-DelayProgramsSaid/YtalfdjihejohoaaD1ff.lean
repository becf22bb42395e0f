/- Own text: D1ff. -/
import Derived.Test.YtalfdjihejohoaaD1j
set_option maxRecDepth 100000
set_option linter.unusedVariables false
set_option linter.unusedSimpArgs false
namespace Go.Am
open Go Go.Proofs
def count (n : Int) (_ : List Sta) : Int × Bool := (IntKind.i64.wrap (n + 1), true)
theorem runY_count : ∀ (l : List (List Sta)) (n : Int), 0 ≤ n → n + l.length < 9223372036854775808 → runY count n l = (n + l.length, true)
  | [], n, _, _ => by simp [runY]
  | c :: r, n, h, h1 => by
    simp only [List.length_cons] at h1
    simp only [runY, count, if_true]
    rw [wrapI _ (by omega) (by omega), runY_count r (n + 1) (by omega) (by omega)]
    simp only [List.length_cons]
    congr 1
    omega
def circBound : Nat → Nat
  | 0 => 1
  | k + 1 => 1 + 48 * circBound k
theorem circFrom_length (x : List (List Acc)) (all : List Sta) (hall : all.length ≤ 48) : ∀ (k : Nat) (l : List Sta), (circFrom x all k l).length ≤ circBound k := by
  intro k
  induction k with
  | zero => intro l; unfold circFrom circHere; split <;> simp [circBound]
  | succ k ih =>
    intro l
    unfold circFrom
    have h1 : (circHere x l).length ≤ 1 := by unfold circHere; split <;> simp
    have h2 : ∀ (q : List Sta), (q.flatMap fun st => if nextOk x l st then circFrom x all k (l ++ [st]) else []).length ≤ q.length * circBound k := by
      intro q
      induction q with
      | nil => simp
      | cons a r ih2 =>
        simp only [List.flatMap_cons, List.length_append, List.length_cons, Nat.succ_mul]
        have : (if nextOk x l a then circFrom x all k (l ++ [a]) else []).length ≤ circBound k := by
          split
          · exact ih _
          · simp
        omega
    have h3 := h2 all
    have h4 := Nat.mul_le_mul_right (circBound k) hall
    rw [List.length_append]
    unfold circBound
    omega
theorem valid_sizes {x : List (List Acc)} (h : valid x = true) : 1 ≤ x.length ∧ x.length ≤ 3 ∧ ∀ l ∈ x, l.length ≤ 4 ∧ ∀ a ∈ l, 0 ≤ a.1 ∧ a.1 ≤ 2 := by
  unfold valid at h
  simp only [Bool.and_eq_true, decide_eq_true_eq, Bool.not_eq_true'] at h
  obtain ⟨⟨h1, h2⟩, h3⟩ := h
  refine ⟨by omega, by omega, fun l hl => ?_⟩
  have := List.any_eq_false.1 h3 l hl
  unfold badL at this
  simp only [Bool.or_eq_true, decide_eq_true_eq, not_or] at this
  refine ⟨by omega, fun a ha => ?_⟩
  have h5 : ¬ badAcc a = true := fun h => this.2 (any_mem_true ha h)
  unfold badAcc at h5
  simp at h5
  exact h5
theorem valid_small {x : List (List Acc)} (h : valid x = true) : Small x := by
  obtain ⟨h1, h2, h3⟩ := valid_sizes h
  exact ⟨by omega, fun l hl => by have := (h3 l hl).1; omega⟩
theorem stations_48 {x : List (List Acc)} (h : valid x = true) : (stations x).length ≤ 48 := by
  obtain ⟨h1, h2, h3⟩ := valid_sizes h
  have h4 : ∀ t a n, (staB x t a n).length ≤ n := fun t a n => by
    unfold staB
    rw [List.length_map]
    exact Nat.le_trans (List.length_filter_le _ _) (by simp)
  have h5 : ∀ t, t < x.length → (staA x t (x.getD t []).length (x.getD t []).length).length ≤ 16 := fun t ht => by
    have hl := (h3 _ (List.getElem_mem ht)).1
    have := flatMap_len (fun a => staB x t a (x.getD t []).length) (x.getD t []).length (List.range (x.getD t []).length) (fun a _ => h4 _ _ _)
    rw [List.getD_eq_getElem?_getD, List.getElem?_eq_getElem ht] at this ⊢
    simp only [Option.getD_some, List.length_range] at this ⊢
    exact Nat.le_trans this (Nat.mul_le_mul hl hl)
  have := flatMap_len (fun t => staA x t (x.getD t []).length (x.getD t []).length) 16 (List.range x.length) (fun t ht => h5 t (List.mem_range.1 ht))
  rw [List.length_range] at this
  exact Nat.le_trans this (Nat.mul_le_mul_right _ h2)
theorem count_circles {x : List (List Acc)} (h : valid x = true) : runY count 0 (circles x) = (((circles x).length : Int), true) := by
  have h1 : (circles x).length ≤ circBound 3 := circFrom_length x _ (stations_48 h) 3 []
  have h2 : circBound 3 = 112945 := by decide
  rw [runY_count _ _ (by omega) (by omega)]
  simp
def nCirc (x : List (List Acc)) : Nat := (circles x).length
theorem Circles_ok (x : List (List Acc)) (hx : Big x) : ACall P 16 [.d (dX x)] [] (.tuple (if valid x then [AI (nCirc x), AI 0] else [AI 0, AI 90])) [] := by
  have cv := valid_ok x hx
  cases hv : valid x with
  | false =>
    rw [hv] at cv
    obtain ⟨X, hX⟩ : ∃ X, dX x = X := ⟨_, rfl⟩
    rw [hX] at cv ⊢
    refine ACall.enter hT (fn := Try.f16) Try.func16 rfl (by decide) (by simp [Try.f16]) rfl rfl rfl rfl (Nat.le_refl _) ?_
    repeat refine AWp.seq ?_
    refine AWp.reg1 {} hT (fun A hA => by cbv) (Nat.zero_le _) ?_
    try dsimp only [AExit.then, AExit.block]
    repeat refine AWp.seq ?_
    refine AWp.region ?_
    refine AOps.stepCall hT (an := {}) (fun A hA => by cbv) (Nat.zero_le _) rfl (.inr rfl) rfl rfl rfl (Nat.le_of_ble_eq_true rfl) rfl rfl (cv) ?_
    refine AOps.done hT (an := {}) (fun A hA => by cbv) (Nat.zero_le _) ?_
    try dsimp only [AExit.then, AExit.block]
    repeat refine AWp.seq ?_
    refine AWp.cond (b := true) rfl ?_
    rw [if_pos rfl]
    repeat refine AWp.seq ?_
    refine AWp.reg1 {} hT (fun A hA => by cbv) (Nat.zero_le _) ?_
    try dsimp only [AExit.then, AExit.block]
    repeat refine AWp.seq ?_
    refine AWp.ret ⟨?_, rfl, rfl, Nat.zero_le _, _, rfl⟩
    rfl
  | true =>
    have hsm := valid_small hv
    have hcnt := count_circles hv
    unfold nCirc
    rw [hv] at cv
    have ccs := fun (A B : Int → Obj) hAB hy => circles_ok A B hAB count x hsm hy 0
    rw [if_pos rfl]
    obtain ⟨X, hX⟩ : ∃ X, dX x = X := ⟨_, rfl⟩
    obtain ⟨N, hN⟩ : ∃ r : Int, ((circles x).length : Int) = r := ⟨_, rfl⟩
    rw [hN] at hcnt
    rw [hX] at cv ⊢
    simp only [hX, hcnt] at ccs
    rw [hN]
    refine ACall.enterT hT (fn := Try.f16) Try.func16 rfl (by decide) (by simp [Try.f16]) rfl rfl rfl rfl (Nat.le_refl _) ?_
    refine AWpT.seq (AWpT.of ?_)
    repeat refine AWp.seq ?_
    refine AWp.reg1 {} hT (fun A hA => by cbv) (Nat.zero_le _) ?_
    try dsimp only [AExit.then, AExit.block]
    refine AWpT.seq (AWpT.of ?_)
    repeat refine AWp.seq ?_
    refine AWp.region ?_
    refine AOps.stepCall hT (an := {}) (fun A hA => by cbv) (Nat.zero_le _) rfl (.inr rfl) rfl rfl rfl (Nat.le_of_ble_eq_true rfl) rfl rfl (cv) ?_
    refine AOps.done hT (an := {}) (fun A hA => by cbv) (Nat.zero_le _) ?_
    try dsimp only [AExit.then, AExit.block]
    repeat refine AWp.seq ?_
    refine AWp.cond (b := false) rfl (AWp.skip ?_)
    try dsimp only [AExit.then, AExit.block]
    refine AWpT.seq (AWpT.of ?_)
    repeat refine AWp.seq ?_
    refine AWp.reg1 {esc := [4]} hT (fun A hA => by cbv) (Nat.zero_le _) ?_
    try dsimp only [AExit.then, AExit.block]
    refine AWpT.seq (AWpT.seq (AWpT.of ?_))
    repeat refine AWp.seq ?_
    refine AWp.reg1 {} hT (fun A hA => by cbv) (Nat.zero_le _) ?_
    try dsimp only [AExit.then, AExit.block]
    refine AWpT.block ?_
    refine AWpT.rangeFunc (st := .ready) (pend := none) [4] rfl (Nat.zero_le _) ?_ ?_ ?_ (ccs (fun n => .cells [AI n]) (fun _ => .loop _) ?_ ?_) ?_ ?_ ?_
    · rfl
    · rfl
    · rfl
    · intro s k hk
      refine ⟨rfl, ?_⟩
      show (decide (0 < k) && true) = true
      simp; omega
    · intro n l hl
      obtain ⟨L, hL⟩ : ∃ L, l.map dSta = L := ⟨_, rfl⟩
      rw [hL]
      obtain ⟨n1, hn1⟩ : ∃ n1, IntKind.i64.wrap (n + 1) = n1 := ⟨_, rfl⟩
      unfold count
      rw [hn1]
      have hadd : ∀ A : Ar, A = Ar.std → A.wrp .i64 (A.zadd n 1) = n1 := fun A hA => by subst hA; exact hn1
      refine YCall.mk (y := 1) rfl rfl rfl rfl rfl rfl (Nat.le_refl _) ?_
      refine AWp.skip ⟨rfl, rfl, ?_⟩
      refine AWp.block ?_
      repeat refine AWp.seq ?_
      refine AWp.reg1 {} hT (fun A hA => by
          have f0 := hadd A hA
          repeat (cbv; simp only [f0])
          cbv) (Nat.le_of_ble_eq_true rfl) ?_
      try dsimp only [AExit.then, AExit.block]
      exact ⟨rfl, rfl, [], rfl⟩
    · simp
    · rfl
    · dsimp only [AWpT.behind, AExit.then, AExit.block]
      refine AWpT.of ?_
      repeat refine AWp.seq ?_
      refine AWp.reg1 {} hT (fun A hA => by cbv) (Nat.le_of_ble_eq_true rfl) ?_
      try dsimp only [AExit.then, AExit.block]
      repeat refine AWp.seq ?_
      refine AWp.ret ⟨?_, rfl, rfl, Nat.le_of_ble_eq_true rfl, _, rfl⟩
      rfl
end Go.Am

set_option maxRecDepth 100000
set_option linter.unusedVariables false
set_option linter.unusedSimpArgs false
namespace Go.Am
open Go Go.Proofs
end Go.Am

set_option maxRecDepth 100000
set_option linter.unusedVariables false
set_option linter.unusedSimpArgs false
namespace Go.Am
open Go Go.Proofs
end Go.Am

set_option maxRecDepth 100000
set_option linter.unusedVariables false
set_option linter.unusedSimpArgs false
namespace Go.Am
open Go Go.Proofs
end Go.Am

set_option maxRecDepth 100000
set_option linter.unusedVariables false
set_option linter.unusedSimpArgs false
namespace Go.Am
open Go Go.Proofs
def x0 : List (List Acc) := [[(0, true), (1, false)], [(1, true), (0, false)]]
theorem nCirc_x0 : nCirc x0 = 2 := by kernel_rfl
theorem valid_x0 : valid x0 = true := by kernel_rfl
theorem awake_ok : ACall P 15 [] [] (AB true) [] := by
  have cc := Circles_ok x0 ⟨by decide, by decide⟩
  rw [valid_x0, if_pos rfl, nCirc_x0] at cc
  have cc' : ACall P 16 [.d (.list 1 [.list 2 [.agg [I 0, .bool true], .agg [I 1, .bool false]], .list 2 [.agg [I 1, .bool true], .agg [I 0, .bool false]]])] [] (.tuple [AI 2, AI 0]) [] := cc
  refine ACall.enter hT (fn := Try.f15) Try.func15 rfl (by decide) (by simp [Try.f15]) rfl rfl rfl rfl (Nat.le_refl _) ?_
  repeat refine AWp.seq ?_
  refine AWp.reg1 {} hT (fun A hA => by cbv) (Nat.zero_le _) ?_
  try dsimp only [AExit.then, AExit.block]
  repeat refine AWp.seq ?_
  refine AWp.region ?_
  refine AOps.stepCall hT (an := {}) (fun A hA => by cbv) (Nat.zero_le _) rfl (.inr rfl) rfl rfl rfl (Nat.le_of_ble_eq_true rfl) rfl rfl (cc') ?_
  refine AOps.done hT (an := {}) (fun A hA => by cbv) (Nat.zero_le _) ?_
  try dsimp only [AExit.then, AExit.block]
  repeat refine AWp.seq ?_
  refine AWp.reg1 {} hT (fun A hA => by
      have f0 := ar_eq hA (show (0 : Int) = 0 from rfl)
      have f1 := ar_eq hA (show (2 : Int) = 2 from rfl)
      repeat (cbv; simp only [f0, f1])
      cbv) (Nat.zero_le _) ?_
  try dsimp only [AExit.then, AExit.block]
  repeat refine AWp.seq ?_
  refine AWp.ret ⟨?_, rfl, rfl, Nat.zero_le _, _, rfl⟩
  rfl
end Go.Am

set_option maxRecDepth 100000
set_option linter.unusedVariables false
set_option linter.unusedSimpArgs false
namespace Go.Am
open Go Go.Proofs
theorem clone_ok (l : List Acc) (hl : l.length ≤ 1000) : ACall P 75 [.d (dAccs l)] [] (.own 2 (l.map dAcc)) [] := by
  unfold dAccs
  by_cases h0 : l = []
  · subst h0
    have e1 : ¬ (0 : Int) < 0 := by omega
    simp only [List.map_nil]
    refine ACall.enter hT (fn := Try.f75) Try.func75 rfl (by decide) (by simp [Try.f75]) rfl rfl rfl rfl (Nat.le_refl _) ?_
    repeat refine AWp.seq ?_
    refine AWp.reg1 {} hT (fun A hA => by cbv) (Nat.zero_le _) ?_
    try dsimp only [AExit.then, AExit.block]
    repeat refine AWp.seq ?_
    refine AWp.reg1 {} hT (fun A hA => by
        have f0 := ar_len hA [] 0 rfl
        have f1 := ar_nlt hA e1
        repeat (cbv; simp only [f0, f1])
        cbv) (Nat.zero_le _) ?_
    try dsimp only [AExit.then, AExit.block]
    repeat refine AWp.seq ?_
    refine AWp.condAny rfl ?_ (AWp.skip ?_)
    · repeat refine AWp.seq ?_
      refine AWp.reg1 {} hT (fun A hA => by cbv) (Nat.zero_le _) ?_
      try dsimp only [AExit.then, AExit.block]
      repeat refine AWp.seq ?_
      refine AWp.ret ⟨?_, rfl, rfl, Nat.zero_le _, _, rfl⟩
      rfl
    · dsimp only [AExit.then, AExit.block]
      repeat refine AWp.seq ?_
      refine AWp.reg1 {tk := [5, 7]} hT (fun A hA => by
          have f0 := ar_app hA [] [] [] rfl
          have f1 := ar_fits hA [] [] (by simp)
          repeat (cbv; simp only [f0, f1])
          cbv) (Nat.zero_le _) ?_
      try dsimp only [AExit.then, AExit.block]
      repeat refine AWp.seq ?_
      refine AWp.ret ⟨?_, rfl, rfl, Nat.zero_le _, _, rfl⟩
      rfl
  · obtain ⟨X, hX⟩ : ∃ X, l.map dAcc = X := ⟨_, rfl⟩
    obtain ⟨n, hn⟩ : ∃ n : Int, (X.length : Int) = n := ⟨_, rfl⟩
    have hln : (l.length : Int) = n := by rw [← hn, ← hX]; simp
    have hpos : 0 < l.length := List.length_pos_iff.2 h0
    rw [hX]
    refine ACall.enter hT (fn := Try.f75) Try.func75 rfl (by decide) (by simp [Try.f75]) rfl rfl rfl rfl (Nat.le_refl _) ?_
    repeat refine AWp.seq ?_
    refine AWp.reg1 {} hT (fun A hA => by cbv) (Nat.zero_le _) ?_
    try dsimp only [AExit.then, AExit.block]
    repeat refine AWp.seq ?_
    refine AWp.reg1 {} hT (fun A hA => by
        have f0 := ar_len hA X n hn
        have f1 := ar_lt hA (show (0 : Int) < n by omega)
        repeat (cbv; simp only [f0, f1])
        cbv) (Nat.zero_le _) ?_
    try dsimp only [AExit.then, AExit.block]
    repeat refine AWp.seq ?_
    refine AWp.cond (b := false) rfl (AWp.skip ?_)
    try dsimp only [AExit.then, AExit.block]
    repeat refine AWp.seq ?_
    refine AWp.reg1 {tk := [5, 7]} hT (fun A hA => by
        have f0 := ar_app hA [] X X rfl
        have f1 := ar_fits hA [] X (by simp; omega)
        repeat (cbv; simp only [f0, f1])
        cbv) (Nat.zero_le _) ?_
    try dsimp only [AExit.then, AExit.block]
    repeat refine AWp.seq ?_
    refine AWp.ret ⟨?_, rfl, rfl, Nat.zero_le _, _, rfl⟩
    rfl
theorem reverse0_ok : ACall P 76 [.d (.list 2 [])] [] (.tuple []) [] := by
  have e1 : ¬ (0 : Int) < -1 := by omega
  refine ACall.enter hT (fn := Try.f76) Try.func76 rfl (by decide) (by simp [Try.f76]) rfl rfl rfl rfl (Nat.le_refl _) ?_
  repeat refine AWp.seq ?_
  refine AWp.reg1 {} hT (fun A hA => by
      have f0 := ar_len hA [] 0 rfl
      have f1 := ar_sub hA 0 1 (-1) rfl (by omega) (by omega)
      repeat (cbv; simp only [f0, f1])
      cbv) (Nat.zero_le _) ?_
  try dsimp only [AExit.then, AExit.block]
  refine AWp.block (AWp.loopInv (ι := Unit) (fun _ => True) (fun z => 0) [0, 2, 3]
    (fun z => { env := [(0, .d (.list 2 [])), (2, AI 0), (3, AI (-1))], heap := [], n := 28 }) () (by cbv) trivial ?_)
  rintro _ _
  repeat refine AWp.seq ?_
  refine AWp.reg1 {} hT (fun A hA => by
      have f0 := ar_nlt hA e1
      repeat (cbv; simp only [f0])
      cbv) (Nat.zero_le _) ?_
  try dsimp only [AExit.then, AExit.block]
  repeat refine AWp.seq ?_
  refine AWp.cond (b := false) rfl (AWp.exit ?_)
  try dsimp only [AExit.then, AExit.block]
  rw [if_pos rfl]
  exact ⟨rfl, rfl, rfl, Nat.zero_le _, [], rfl⟩
theorem reverse_ok (x : List Acc) (n : Int) (hn : (x.length : Int) = n) (h1 : 1 ≤ n) (h2 : n ≤ 1000) : ACall P 76 [.mref 0 2 0 n] [.arr 2 (x.map dAcc)] (.tuple []) [.arr 2 (x.reverse.map dAcc)] := by
  obtain ⟨X, hX⟩ : ∃ X, x.map dAcc = X := ⟨_, rfl⟩
  obtain ⟨Y, hY⟩ : ∃ X, x.reverse.map dAcc = X := ⟨_, rfl⟩
  obtain ⟨m, hm⟩ : ∃ m, n - 1 = m := ⟨_, rfl⟩
  rw [hX, hY]
  refine ACall.enter hT (fn := Try.f76) Try.func76 rfl (by decide) (by simp [Try.f76]) rfl rfl rfl rfl (Nat.le_refl _) ?_
  repeat refine AWp.seq ?_
  refine AWp.reg1 {} hT (fun A hA => by
      have f0 := ar_sub hA n 1 m hm (by omega) (by omega)
      repeat (cbv; simp only [f0])
      cbv) (Nat.le_of_ble_eq_true rfl) ?_
  try dsimp only [AExit.then, AExit.block]
  refine AWp.block (AWp.loopInv (ι := List Acc × List D × Int × Int)
    (fun I => I.1.map dAcc = I.2.1 ∧ (I.1.length : Int) = n ∧ 0 ≤ I.2.2.1 ∧ I.2.2.1 + I.2.2.2 = m ∧ I.2.2.1 ≤ I.2.2.2 + 1 ∧ ∀ q : Nat, (q : Int) < n → I.1[q]? = if (q : Int) < I.2.2.1 ∨ I.2.2.2 < q then x[x.length - 1 - q]? else x[q]?)
    (fun I => (I.2.2.2 + 1 - I.2.2.1).toNat) [0, 2, 3]
    (fun I => { env := [(0, .mref 0 2 0 n), (2, AI I.2.2.1), (3, AI I.2.2.2)], heap := [.arr 2 I.2.1], n := 28 }) (x, X, 0, m) (by cbv) ⟨hX, hn, by dsimp only; omega, by dsimp only; omega, by dsimp only; omega, fun q hq => ?_⟩ ?_)
  · dsimp only
    rw [if_neg (by omega)]
  · rintro ⟨l, L, i, j⟩ ⟨g1, g2, g3, g4, g5, g6⟩
    dsimp only at *
    by_cases hij : i < j
    · obtain ⟨⟨v, p⟩, hi⟩ : ∃ s, l[i.toNat]? = some s := ⟨_, List.getElem?_eq_getElem (by omega)⟩
      obtain ⟨⟨v', p'⟩, hj⟩ : ∃ s, l[j.toNat]? = some s := ⟨_, List.getElem?_eq_getElem (by omega)⟩
      have hLi : L[i.toNat]? = some (.agg [I v, .bool p]) := by rw [← g1, List.getElem?_map, hi]; rfl
      have hLj : L[j.toNat]? = some (.agg [I v', .bool p']) := by rw [← g1, List.getElem?_map, hj]; rfl
      obtain ⟨L1, hL1⟩ : ∃ L1, L.set i.toNat (.agg [I v', .bool p']) = L1 := ⟨_, rfl⟩
      obtain ⟨L2, hL2⟩ : ∃ L2, L1.set j.toNat (.agg [I v, .bool p]) = L2 := ⟨_, rfl⟩
      have hs1 : ∀ A : Ar, A = Ar.std → A.lset L (A.nat i) (.agg [I v', .bool p']) = L1 := fun A hA => by subst hA; exact hL1
      have hs2 : ∀ A : Ar, A = Ar.std → A.lset L1 (A.nat j) (.agg [I v, .bool p]) = L2 := fun A hA => by subst hA; exact hL2
      have hL1j : L1[j.toNat]? = some (.agg [I v', .bool p']) := by rw [← hL1, List.getElem?_set_ne (by omega)]; exact hLj
      obtain ⟨i1, hi1⟩ : ∃ z1, i + 1 = z1 := ⟨_, rfl⟩
      obtain ⟨j1, hj1⟩ : ∃ z1, j - 1 = z1 := ⟨_, rfl⟩
      repeat refine AWp.seq ?_
      refine AWp.reg1 {} hT (fun A hA => by
          have f0 := ar_lt hA hij
          repeat (cbv; simp only [f0])
          cbv) (Nat.le_of_ble_eq_true rfl) ?_
      try dsimp only [AExit.then, AExit.block]
      repeat refine AWp.seq ?_
      refine AWp.cond (b := true) rfl (AWp.skip ?_)
      try dsimp only [AExit.then, AExit.block]
      repeat refine AWp.seq ?_
      refine AWp.block ?_
      repeat refine AWp.seq ?_
      refine AWp.reg1D {} hT rfl (fun A hA => by
          have f0 := ar_le hA (show (0:Int) ≤ i by omega)
          have f1 := ar_le hA (show (0:Int) ≤ j by omega)
          have f2 := ar_lt hA (show i < n by omega)
          have f3 := ar_lt hA (show j < n by omega)
          have f4 := ar_zadd0 hA i
          have f5 := ar_zadd0 hA j
          have f6 := ar_get hA hLi
          have f7 := ar_get hA hLj
          have f8 := hs1 A hA
          have f9 := ar_get hA hL1j
          have f10 := hs2 A hA
          repeat (cbv; simp only [f0, f1, f2, f3, f4, f5, f6, f7, f8, f9, f10])
          cbv) (by kernel_rfl) (Nat.le_of_ble_eq_true rfl) ?_
      try dsimp only [AExit.then, AExit.block]
      repeat refine AWp.seq ?_
      refine AWp.reg1 {} hT (fun A hA => by
          have f0 := ar_add hA i 1 i1 hi1 (by omega) (by omega)
          have f1 := ar_sub hA j 1 j1 hj1 (by omega) (by omega)
          repeat (cbv; simp only [f0, f1])
          cbv) (Nat.le_of_ble_eq_true rfl) ?_
      try dsimp only [AExit.then, AExit.block]
      refine ⟨((l.set i.toNat (v', p')).set j.toNat (v, p), L2, i1, j1), ⟨?_, by simpa using g2, by dsimp only; omega, by dsimp only; omega, by dsimp only; omega, fun q hq => ?_⟩, by dsimp only; omega, by cbv⟩
      · dsimp only
        rw [← hL2, ← hL1, ← g1, List.map_set, List.map_set]; rfl
      · dsimp only
        have hi' := g6 i.toNat (by omega)
        have hj' := g6 j.toNat (by omega)
        rw [if_neg (by omega)] at hi' hj'
        by_cases c1 : q = j.toNat
        · subst c1
          rw [List.getElem?_set_self (by simp; omega), if_pos (by omega), ← hi, hi']
          congr 1; omega
        · rw [List.getElem?_set_ne (fun e => c1 e.symm)]
          by_cases c2 : q = i.toNat
          · subst c2
            rw [List.getElem?_set_self (by omega), if_pos (by omega), ← hj, hj']
            congr 1; omega
          · rw [List.getElem?_set_ne (fun e => c2 e.symm), g6 q hq]
            by_cases c3 : (q : Int) < i ∨ j < q
            · rw [if_pos c3, if_pos (by omega)]
            · rw [if_neg c3, if_neg (by omega)]
    · repeat refine AWp.seq ?_
      refine AWp.reg1 {} hT (fun A hA => by
          have f0 := ar_nlt hA hij
          repeat (cbv; simp only [f0])
          cbv) (Nat.le_of_ble_eq_true rfl) ?_
      try dsimp only [AExit.then, AExit.block]
      repeat refine AWp.seq ?_
      refine AWp.cond (b := false) rfl (AWp.exit ?_)
      try dsimp only [AExit.then, AExit.block]
      rw [if_pos rfl]
      have : L = Y := by
        rw [← g1, ← hY]
        congr 1
        apply List.ext_getElem?
        intro q
        by_cases hq : (q : Int) < n
        · rw [g6 q hq, List.getElem?_reverse (by omega)]
          by_cases c3 : (q : Int) < i ∨ j < q
          · rw [if_pos c3]
          · rw [if_neg c3]
            congr 1; omega
        · rw [List.getElem?_eq_none (by omega), List.getElem?_eq_none (by simp; omega)]
      rw [this]
      exact ⟨rfl, rfl, rfl, Nat.le_refl _, [], rfl⟩
end Go.Am

set_option maxRecDepth 100000
set_option linter.unusedVariables false
set_option linter.unusedSimpArgs false
namespace Go.Am
open Go Go.Proofs
def turned (x : List (List Acc)) : List (List Acc) := x.map List.reverse
theorem scalars_dAcc (l : List Acc) : scalars (l.map dAcc) = true := by simp [scalars, dAcc, D.cells, D.scalar]
theorem Turned_ok (x : List (List Acc)) (hx : Big x) : ACall P 25 [.d (dX x)] [] (.tuple [.d (.list 1 (if valid x then (turned x).map dAccs else [])), AI (if valid x then 0 else 90)]) [] := by
  have cv := valid_ok x hx
  cases hv : valid x with
  | false =>
    rw [hv] at cv
    obtain ⟨X, hX⟩ : ∃ X, dX x = X := ⟨_, rfl⟩
    rw [hX] at cv ⊢
    refine ACall.enter hT (fn := Try.f25) Try.func25 rfl (by decide) (by simp [Try.f25]) rfl rfl rfl rfl (Nat.le_refl _) ?_
    repeat refine AWp.seq ?_
    refine AWp.reg1 {} hT (fun A hA => by cbv) (Nat.zero_le _) ?_
    try dsimp only [AExit.then, AExit.block]
    repeat refine AWp.seq ?_
    refine AWp.region ?_
    refine AOps.stepCall hT (an := {}) (fun A hA => by cbv) (Nat.zero_le _) rfl (.inr rfl) rfl rfl rfl (Nat.le_of_ble_eq_true rfl) rfl rfl (cv) ?_
    refine AOps.done hT (an := {}) (fun A hA => by cbv) (Nat.zero_le _) ?_
    try dsimp only [AExit.then, AExit.block]
    repeat refine AWp.seq ?_
    refine AWp.cond (b := true) rfl ?_
    rw [if_pos rfl]
    repeat refine AWp.seq ?_
    refine AWp.reg1 {} hT (fun A hA => by cbv) (Nat.zero_le _) ?_
    try dsimp only [AExit.then, AExit.block]
    repeat refine AWp.seq ?_
    refine AWp.ret ⟨?_, rfl, rfl, Nat.zero_le _, _, rfl⟩
    rfl
  | true =>
    have hsm := valid_small hv
    rw [hv] at cv
    simp only [if_true]
    unfold dX at *
    obtain ⟨X, hX⟩ : ∃ X, x.map dAccs = X := ⟨_, rfl⟩
    obtain ⟨n, hn⟩ : ∃ n : Int, (X.length : Int) = n := ⟨_, rfl⟩
    have hxl : (x.length : Int) = n := by rw [← hn, ← hX]; simp
    have hs := hsm.1
    rw [hX] at cv ⊢
    refine ACall.enter hT (fn := Try.f25) Try.func25 rfl (by decide) (by simp [Try.f25]) rfl rfl rfl rfl (Nat.le_refl _) ?_
    repeat refine AWp.seq ?_
    refine AWp.reg1 {} hT (fun A hA => by cbv) (Nat.zero_le _) ?_
    try dsimp only [AExit.then, AExit.block]
    repeat refine AWp.seq ?_
    refine AWp.region ?_
    refine AOps.stepCall hT (an := {}) (fun A hA => by cbv) (Nat.zero_le _) rfl (.inr rfl) rfl rfl rfl (Nat.le_of_ble_eq_true rfl) rfl rfl (cv) ?_
    refine AOps.done hT (an := {}) (fun A hA => by cbv) (Nat.zero_le _) ?_
    try dsimp only [AExit.then, AExit.block]
    repeat refine AWp.seq ?_
    refine AWp.cond (b := false) rfl (AWp.skip ?_)
    try dsimp only [AExit.then, AExit.block]
    repeat refine AWp.seq ?_
    refine AWp.reg1 {tk := [4]} hT (fun A hA => by cbv) (Nat.zero_le _) ?_
    try dsimp only [AExit.then, AExit.block]
    repeat refine AWp.seq ?_
    refine AWp.reg1 {} hT (fun A hA => by
        have f0 := ar_len hA X n hn
        repeat (cbv; simp only [f0])
        cbv) (Nat.zero_le _) ?_
    try dsimp only [AExit.then, AExit.block]
    refine AWp.block (AWp.loopH (ι := Int × List D) (fun p => 0 ≤ p.1 ∧ p.1 ≤ n ∧ p.2 = ((turned x).take p.1.toNat).map dAccs) (fun p => (n - p.1).toNat) [4, 10, 11, 12] 0
      (fun p => { env := [(4, .own 1 p.2), (10, .d (.list 1 X)), (11, AI n), (12, AI p.1)], heap := [], n := 26 }) (0, []) (Nat.le_refl _) rfl (by cbv) ⟨Int.le_refl _, by dsimp only; omega, by simp⟩ ?_)
    rintro ⟨z, L⟩ ⟨h0, h1, h2⟩
    dsimp only at *
    by_cases hz : z < n
    · obtain ⟨z1, hz1⟩ : ∃ z1, z + 1 = z1 := ⟨_, rfl⟩
      obtain ⟨l, hl⟩ : ∃ l, x[z.toNat]? = some l := ⟨_, List.getElem?_eq_getElem (by omega)⟩
      have hl1 := hsm.2 l (List.mem_of_getElem? hl)
      have hXt : X[z.toNat]? = some (dAccs l) := by rw [← hX, List.getElem?_map, hl]; rfl
      have hnext : ((turned x).take z1.toNat).map dAccs = L ++ [.list 2 (l.reverse.map dAcc)] := by
        rw [show z1.toNat = z.toNat + 1 by omega, List.take_add_one, List.map_append, ← h2]
        unfold turned
        rw [List.getElem?_map, hl]; rfl
      have hLl : (L.length : Int) ≤ z := by rw [h2]; simp; omega
      have ccl := clone_ok l hl1
      unfold dAccs at ccl hXt
      by_cases he : l = []
      · subst he
        simp only [List.map_nil, List.reverse_nil] at hnext ccl hXt
        obtain ⟨L1, hL1⟩ : ∃ l3, L ++ [.list 2 []] = l3 := ⟨_, rfl⟩
        repeat refine AWp.seq ?_
        refine AWp.reg1 {} hT (fun A hA => by
            have f0 := ar_lt hA hz
            repeat (cbv; simp only [f0])
            cbv) (Nat.zero_le _) ?_
        try dsimp only [AExit.then, AExit.block]
        repeat refine AWp.seq ?_
        refine AWp.cond (b := true) rfl (AWp.skip ?_)
        try dsimp only [AExit.then, AExit.block]
        repeat refine AWp.seq ?_
        refine AWp.block ?_
        repeat refine AWp.seq ?_
        refine AWp.reg1 {} hT (fun A hA => by
            have f0 := ar_get hA hXt
            have f1 := ar_le hA h0
            repeat (cbv; simp only [f0, f1])
            cbv) (Nat.zero_le _) ?_
        try dsimp only [AExit.then, AExit.block]
        repeat refine AWp.seq ?_
        refine AWp.region ?_
        refine AOps.stepCall hT (an := {}) (fun A hA => by cbv) (Nat.zero_le _) rfl (.inr rfl) rfl rfl rfl (Nat.le_of_ble_eq_true rfl) rfl rfl (ccl) ?_
        refine AOps.done hT (an := {}) (fun A hA => by cbv) (Nat.zero_le _) ?_
        try dsimp only [AExit.then, AExit.block]
        repeat refine AWp.seq ?_
        refine AWp.region ?_
        refine AOps.stepCall hT (an := {}) (fun A hA => by cbv) (Nat.zero_le _) rfl (.inr rfl) rfl rfl rfl (Nat.le_of_ble_eq_true rfl) rfl rfl (reverse0_ok) ?_
        refine AOps.done hT (an := {}) (fun A hA => by cbv) (Nat.zero_le _) ?_
        try dsimp only [AExit.then, AExit.block]
        repeat refine AWp.seq ?_
        refine AWp.reg1 {tk := [4, 20, 23]} hT (fun A hA => by
            have f0 := ar_app hA _ _ _ hL1
            have f1 := ar_fits hA L [.list 2 []] (by simp; omega)
            repeat (cbv; simp only [f0, f1])
            cbv) (Nat.zero_le _) ?_
        try dsimp only [AExit.then, AExit.block]
        repeat refine AWp.seq ?_
        refine AWp.reg1 {} hT (fun A hA => by
            have f0 := ar_add hA z 1 z1 hz1 (by omega) (by omega)
            repeat (cbv; simp only [f0])
            cbv) (Nat.zero_le _) ?_
        try dsimp only [AExit.then, AExit.block]
        refine ⟨rfl, (z1, L1), ⟨by dsimp only; omega, by dsimp only; omega, by dsimp only; rw [hnext, hL1]⟩, by dsimp only; omega, by cbv⟩
      · obtain ⟨k, hk⟩ : ∃ k : Int, (l.length : Int) = k := ⟨_, rfl⟩
        have hpos : 0 < l.length := List.length_pos_iff.2 he
        have crv := reverse_ok l k hk (by omega) (by omega)
        have cth := ACall.thaw ccl rfl rfl (by simpa using he) (scalars_dAcc l) (H := []) rfl (n := k) (by simpa using hk)
        have hsub : Ar.std.sub (l.reverse.map dAcc) 0 (0 + k) = l.reverse.map dAcc := by
          simp only [Ar.std]
          rw [List.take_of_length_le (by simp; omega)]; rfl
        have hrl : ((l.reverse.map dAcc).length : Int) = k := by simp; omega
        obtain ⟨M, hM⟩ : ∃ M, l.map dAcc = M := ⟨_, rfl⟩
        obtain ⟨R, hR⟩ : ∃ M, l.reverse.map dAcc = M := ⟨_, rfl⟩
        rw [hM] at cth crv hXt
        rw [hR] at crv hsub hnext hrl
        obtain ⟨L1, hL1⟩ : ∃ l3, L ++ [.list 2 R] = l3 := ⟨_, rfl⟩
        rw [hM] at ccl
        repeat refine AWp.seq ?_
        refine AWp.reg1 {} hT (fun A hA => by
            have f0 := ar_lt hA hz
            repeat (cbv; simp only [f0])
            cbv) (Nat.zero_le _) ?_
        try dsimp only [AExit.then, AExit.block]
        repeat refine AWp.seq ?_
        refine AWp.cond (b := true) rfl (AWp.skip ?_)
        try dsimp only [AExit.then, AExit.block]
        repeat refine AWp.seq ?_
        refine AWp.block ?_
        repeat refine AWp.seq ?_
        refine AWp.reg1 {} hT (fun A hA => by
            have f0 := ar_get hA hXt
            have f1 := ar_le hA h0
            repeat (cbv; simp only [f0, f1])
            cbv) (Nat.zero_le _) ?_
        try dsimp only [AExit.then, AExit.block]
        repeat refine AWp.seq ?_
        refine AWp.region ?_
        refine AOps.stepCallW hT (an := {}) (fun A hA => by cbv) (Nat.zero_le _) (by first | rfl | exact hin) (by first | rfl | simp [inbL, AV.inb, hbs]) rfl (Nat.le_of_ble_eq_true rfl) rfl (by first | rfl | simp [AV.free, hbf]) (cth) ?_
        refine AOps.done hT (an := {}) (fun A hA => by cbv) (Nat.zero_le _) ?_
        try dsimp only [AExit.then, AExit.block]
        repeat refine AWp.seq ?_
        refine AWp.region ?_
        refine AOps.stepCallW hT (an := {}) (fun A hA => by cbv) (Nat.zero_le _) (by first | rfl | exact hin) (by first | rfl | simp [inbL, AV.inb, hbs]) rfl (Nat.le_of_ble_eq_true rfl) rfl (by first | rfl | simp [AV.free, hbf]) (crv) ?_
        refine AOps.done hT (an := {}) (fun A hA => by cbv) (Nat.zero_le _) ?_
        try dsimp only [AExit.then, AExit.block]
        repeat refine AWp.seq ?_
        refine AWp.freeze (s := 6) (i := 0) (k := 2) (lo := 0) (n := k) (l := R) (l' := R) rfl rfl (by omega) hsub ?_
        repeat refine AWp.seq ?_
        refine AWp.reg1 {tk := [4, 20, 23]} hT (fun A hA => by
            have f0 := ar_app hA _ _ _ hL1
            have f1 := ar_fits hA L [.list 2 R] (by simp; omega)
            repeat (cbv; simp only [f0, f1])
            cbv) (Nat.zero_le _) ?_
        try dsimp only [AExit.then, AExit.block]
        repeat refine AWp.seq ?_
        refine AWp.reg1 {} hT (fun A hA => by
            have f0 := ar_add hA z 1 z1 hz1 (by omega) (by omega)
            repeat (cbv; simp only [f0])
            cbv) (Nat.zero_le _) ?_
        try dsimp only [AExit.then, AExit.block]
        refine ⟨rfl, (z1, L1), ⟨by dsimp only; omega, by dsimp only; omega, by dsimp only; rw [hnext, hL1]⟩, by dsimp only; omega, by cbv⟩
    · repeat refine AWp.seq ?_
      refine AWp.reg1 {} hT (fun A hA => by
          have f0 := ar_nlt hA hz
          repeat (cbv; simp only [f0])
          cbv) (Nat.zero_le _) ?_
      try dsimp only [AExit.then, AExit.block]
      repeat refine AWp.seq ?_
      refine AWp.cond (b := false) rfl (AWp.exit ?_)
      try dsimp only [AExit.then, AExit.block]
      rw [if_pos rfl]
      repeat refine AWp.seq ?_
      refine AWp.reg1 {} hT (fun A hA => by cbv) (Nat.zero_le _) ?_
      try dsimp only [AExit.then, AExit.block]
      repeat refine AWp.seq ?_
      refine AWp.ret ⟨?_, rfl, rfl, Nat.zero_le _, _, rfl⟩
      rw [h2, List.take_of_length_le (by unfold turned; simp; omega)]; rfl
theorem sameAccesses_ok (x y : List (List Acc)) (hx : Big x) (hy : Big y) : ACall P 26 [.d (dX x), .d (dX y)] [] (AB (decide (x = y))) [] := by
  unfold dX
  obtain ⟨X, hX⟩ : ∃ X, x.map dAccs = X := ⟨_, rfl⟩
  obtain ⟨Y, hY⟩ : ∃ Y, y.map dAccs = Y := ⟨_, rfl⟩
  obtain ⟨n, hn⟩ : ∃ n : Int, (X.length : Int) = n := ⟨_, rfl⟩
  obtain ⟨m, hm⟩ : ∃ n : Int, (Y.length : Int) = n := ⟨_, rfl⟩
  have hpl : (x.length : Int) = n := by rw [← hn, ← hX]; simp
  have hql : (y.length : Int) = m := by rw [← hm, ← hY]; simp
  have hb1 := hx.1
  rw [hX, hY]
  refine ACall.enter hT (fn := Try.f26) Try.func26 rfl (by decide) (by simp [Try.f26]) rfl rfl rfl rfl (Nat.le_refl _) ?_
  repeat refine AWp.seq ?_
  refine AWp.reg1 {} hT (fun A hA => by cbv) (Nat.zero_le _) ?_
  try dsimp only [AExit.then, AExit.block]
  by_cases hnm : n = m
  · subst hnm
    repeat refine AWp.seq ?_
    refine AWp.reg1 {} hT (fun A hA => by
        have f0 := ar_len hA X n hn
        have f1 := ar_len hA Y n hm
        have f2 := ar_eq hA (rfl : n = n)
        repeat (cbv; simp only [f0, f1, f2])
        cbv) (Nat.zero_le _) ?_
    try dsimp only [AExit.then, AExit.block]
    repeat refine AWp.seq ?_
    refine AWp.cond (b := false) rfl (AWp.skip ?_)
    try dsimp only [AExit.then, AExit.block]
    repeat refine AWp.seq ?_
    refine AWp.reg1 {} hT (fun A hA => by
        have f0 := ar_len hA X n hn
        repeat (cbv; simp only [f0])
        cbv) (Nat.zero_le _) ?_
    try dsimp only [AExit.then, AExit.block]
    refine AWp.block (AWp.loopInv (ι := Int) (fun z => 0 ≤ z ∧ z ≤ n ∧ x.take z.toNat = y.take z.toNat) (fun z => (n - z).toNat) [0, 1, 13, 14]
      (fun z => { env := [(0, .d (.list 1 X)), (1, .d (.list 1 Y)), (13, AI n), (14, AI z)], heap := [], n := 53 }) 0 (by cbv) ⟨Int.le_refl _, by omega, by simp⟩ ?_)
    rintro z ⟨h0, h1, h2⟩
    by_cases hz : z < n
    · obtain ⟨z1, hz1⟩ : ∃ z1, z + 1 = z1 := ⟨_, rfl⟩
      obtain ⟨l, hl⟩ : ∃ s, x[z.toNat]? = some s := ⟨_, List.getElem?_eq_getElem (by omega)⟩
      obtain ⟨l', hl'⟩ : ∃ s, y[z.toNat]? = some s := ⟨_, List.getElem?_eq_getElem (by omega)⟩
      have hbl := hx.2 l (List.mem_of_getElem? hl)
      obtain ⟨L, hL⟩ : ∃ L, l.map dAcc = L := ⟨_, rfl⟩
      obtain ⟨L', hL'⟩ : ∃ L, l'.map dAcc = L := ⟨_, rfl⟩
      obtain ⟨k, hk⟩ : ∃ n : Int, (L.length : Int) = n := ⟨_, rfl⟩
      obtain ⟨k', hk'⟩ : ∃ n : Int, (L'.length : Int) = n := ⟨_, rfl⟩
      have hkl : (l.length : Int) = k := by rw [← hk, ← hL]; simp
      have hkl' : (l'.length : Int) = k' := by rw [← hk', ← hL']; simp
      have hXs : X[z.toNat]? = some (.list 2 L) := by rw [← hX, List.getElem?_map, hl, ← hL]; rfl
      have hYs : Y[z.toNat]? = some (.list 2 L') := by rw [← hY, List.getElem?_map, hl', ← hL']; rfl
      have hneq : l ≠ l' → x ≠ y := fun h e => by subst e; rw [hl] at hl'; cases hl'; exact h rfl
      repeat refine AWp.seq ?_
      refine AWp.reg1 {} hT (fun A hA => by
          have f0 := ar_lt hA hz
          repeat (cbv; simp only [f0])
          cbv) (Nat.zero_le _) ?_
      try dsimp only [AExit.then, AExit.block]
      repeat refine AWp.seq ?_
      refine AWp.cond (b := true) rfl (AWp.skip ?_)
      try dsimp only [AExit.then, AExit.block]
      repeat refine AWp.seq ?_
      refine AWp.block ?_
      repeat refine AWp.seq ?_
      refine AWp.reg1 {} hT (fun A hA => by cbv) (Nat.zero_le _) ?_
      try dsimp only [AExit.then, AExit.block]
      by_cases hkk : k = k'
      · subst hkk
        repeat refine AWp.seq ?_
        refine AWp.reg1D {} hT rfl (fun A hA => by
            have f0 := ar_get hA hXs
            have f1 := ar_le hA h0
            have f2 := ar_get hA hYs
            have f3 := ar_len hA L k hk
            have f4 := ar_len hA L' k hk'
            have f5 := ar_eq hA (rfl : k = k)
            repeat (cbv; simp only [f0, f1, f2, f3, f4, f5])
            cbv) (by kernel_rfl) (Nat.zero_le _) ?_
        try dsimp only [AExit.then, AExit.block]
        repeat refine AWp.seq ?_
        refine AWp.cond (b := false) rfl (AWp.skip ?_)
        try dsimp only [AExit.then, AExit.block]
        repeat refine AWp.seq ?_
        refine AWp.reg1 {} hT (fun A hA => by
            have f0 := ar_get hA hXs
            have f1 := ar_le hA h0
            have f2 := ar_len hA L k hk
            repeat (cbv; simp only [f0, f1, f2])
            cbv) (Nat.zero_le _) ?_
        try dsimp only [AExit.then, AExit.block]
        refine AWp.block (AWp.loopInv (ι := Int) (fun v => 0 ≤ v ∧ v ≤ k ∧ l.take v.toNat = l'.take v.toNat) (fun v => (k - v).toNat) [0, 1, 5, 13, 14, 32, 33]
          (fun v => { env := [(0, .d (.list 1 X)), (1, .d (.list 1 Y)), (5, AI z), (13, AI n), (14, AI z), (32, AI k), (33, AI v)], heap := [], n := 53 }) 0 (by cbv) ⟨Int.le_refl _, by omega, by simp⟩ ?_)
        rintro v ⟨g0, g1, g2⟩
        by_cases hv : v < k
        · obtain ⟨v1, hv1⟩ : ∃ z1, v + 1 = z1 := ⟨_, rfl⟩
          obtain ⟨⟨a, p⟩, hs⟩ : ∃ s, l[v.toNat]? = some s := ⟨_, List.getElem?_eq_getElem (by omega)⟩
          obtain ⟨⟨a', p'⟩, hs'⟩ : ∃ s, l'[v.toNat]? = some s := ⟨_, List.getElem?_eq_getElem (by omega)⟩
          have hLs : L[v.toNat]? = some (.agg [I a, .bool p]) := by rw [← hL, List.getElem?_map, hs]; rfl
          have hLs' : L'[v.toNat]? = some (.agg [I a', .bool p']) := by rw [← hL', List.getElem?_map, hs']; rfl
          obtain ⟨r, hr⟩ : ∃ r, decide ((a, p) = (a', p')) = r := ⟨_, rfl⟩
          have hdeq : ∀ A : Ar, A = Ar.std → A.deq [I a, .bool p] [I a', .bool p'] = r := fun A hA => ar_deq hA (by rw [← hr]; simp)
          repeat refine AWp.seq ?_
          refine AWp.reg1 {} hT (fun A hA => by
              have f0 := ar_lt hA hv
              repeat (cbv; simp only [f0])
              cbv) (Nat.zero_le _) ?_
          try dsimp only [AExit.then, AExit.block]
          repeat refine AWp.seq ?_
          refine AWp.cond (b := true) rfl (AWp.skip ?_)
          try dsimp only [AExit.then, AExit.block]
          repeat refine AWp.seq ?_
          refine AWp.block ?_
          repeat refine AWp.seq ?_
          refine AWp.reg1 {} hT (fun A hA => by cbv) (Nat.zero_le _) ?_
          try dsimp only [AExit.then, AExit.block]
          cases r with
          | true =>
            repeat refine AWp.seq ?_
            refine AWp.reg1D {} hT rfl (fun A hA => by
                have f0 := ar_get hA hXs
                have f1 := ar_le hA h0
                have f2 := ar_get hA hYs
                have f3 := ar_le hA g0
                have f4 := ar_get hA hLs
                have f5 := ar_get hA hLs'
                have f6 := hdeq A hA
                repeat (cbv; simp only [f0, f1, f2, f3, f4, f5, f6])
                cbv) (by kernel_rfl) (Nat.zero_le _) ?_
            try dsimp only [AExit.then, AExit.block]
            repeat refine AWp.seq ?_
            refine AWp.cond (b := false) rfl (AWp.skip ?_)
            try dsimp only [AExit.then, AExit.block]
            repeat refine AWp.seq ?_
            refine AWp.reg1 {} hT (fun A hA => by
                have f0 := ar_add hA v 1 v1 hv1 (by omega) (by omega)
                repeat (cbv; simp only [f0])
                cbv) (Nat.zero_le _) ?_
            try dsimp only [AExit.then, AExit.block]
            refine ⟨v1, ⟨by omega, by omega, ?_⟩, by omega, by cbv⟩
            rw [show v1.toNat = v.toNat + 1 by omega, List.take_add_one, List.take_add_one, g2, hs, hs']
            rw [of_decide_eq_true hr]
          | false =>
            repeat refine AWp.seq ?_
            refine AWp.reg1D {} hT rfl (fun A hA => by
                have f0 := ar_get hA hXs
                have f1 := ar_le hA h0
                have f2 := ar_get hA hYs
                have f3 := ar_le hA g0
                have f4 := ar_get hA hLs
                have f5 := ar_get hA hLs'
                have f6 := hdeq A hA
                repeat (cbv; simp only [f0, f1, f2, f3, f4, f5, f6])
                cbv) (by kernel_rfl) (Nat.zero_le _) ?_
            try dsimp only [AExit.then, AExit.block]
            repeat refine AWp.seq ?_
            refine AWp.cond (b := true) rfl ?_
            rw [if_pos rfl]
            repeat refine AWp.seq ?_
            refine AWp.reg1 {} hT (fun A hA => by cbv) (Nat.zero_le _) ?_
            try dsimp only [AExit.then, AExit.block]
            repeat refine AWp.seq ?_
            refine AWp.ret ⟨?_, rfl, rfl, Nat.zero_le _, _, rfl⟩
            have : x ≠ y := hneq (by
              rintro rfl
              rw [hs] at hs'
              cases hs'
              simp at hr)
            simp [this]; rfl
        · repeat refine AWp.seq ?_
          refine AWp.reg1 {} hT (fun A hA => by
              have f0 := ar_nlt hA hv
              repeat (cbv; simp only [f0])
              cbv) (Nat.zero_le _) ?_
          try dsimp only [AExit.then, AExit.block]
          repeat refine AWp.seq ?_
          refine AWp.cond (b := false) rfl (AWp.exit ?_)
          try dsimp only [AExit.then, AExit.block]
          rw [if_pos rfl]
          repeat refine AWp.seq ?_
          refine AWp.reg1 {} hT (fun A hA => by
              have f0 := ar_add hA z 1 z1 hz1 (by omega) (by omega)
              repeat (cbv; simp only [f0])
              cbv) (Nat.zero_le _) ?_
          try dsimp only [AExit.then, AExit.block]
          refine ⟨z1, ⟨by omega, by omega, ?_⟩, by omega, by cbv⟩
          rw [List.take_of_length_le (by omega), List.take_of_length_le (by omega)] at g2
          rw [show z1.toNat = z.toNat + 1 by omega, List.take_add_one, List.take_add_one, h2, hl, hl', g2]
      · repeat refine AWp.seq ?_
        refine AWp.reg1D {} hT rfl (fun A hA => by
            have f0 := ar_get hA hXs
            have f1 := ar_le hA h0
            have f2 := ar_get hA hYs
            have f3 := ar_len hA L k hk
            have f4 := ar_len hA L' k' hk'
            have f5 := ar_ne hA hkk
            repeat (cbv; simp only [f0, f1, f2, f3, f4, f5])
            cbv) (by kernel_rfl) (Nat.zero_le _) ?_
        try dsimp only [AExit.then, AExit.block]
        repeat refine AWp.seq ?_
        refine AWp.cond (b := true) rfl ?_
        rw [if_pos rfl]
        repeat refine AWp.seq ?_
        refine AWp.reg1 {} hT (fun A hA => by cbv) (Nat.zero_le _) ?_
        try dsimp only [AExit.then, AExit.block]
        repeat refine AWp.seq ?_
        refine AWp.ret ⟨?_, rfl, rfl, Nat.zero_le _, _, rfl⟩
        have : x ≠ y := hneq (by rintro rfl; omega)
        simp [this]; rfl
    · repeat refine AWp.seq ?_
      refine AWp.reg1 {} hT (fun A hA => by
          have f0 := ar_nlt hA hz
          repeat (cbv; simp only [f0])
          cbv) (Nat.zero_le _) ?_
      try dsimp only [AExit.then, AExit.block]
      repeat refine AWp.seq ?_
      refine AWp.cond (b := false) rfl (AWp.exit ?_)
      try dsimp only [AExit.then, AExit.block]
      rw [if_pos rfl]
      repeat refine AWp.seq ?_
      refine AWp.reg1 {} hT (fun A hA => by cbv) (Nat.zero_le _) ?_
      try dsimp only [AExit.then, AExit.block]
      repeat refine AWp.seq ?_
      refine AWp.ret ⟨?_, rfl, rfl, Nat.zero_le _, _, rfl⟩
      rw [List.take_of_length_le (by omega), List.take_of_length_le (by omega)] at h2
      simp [h2]; rfl
  · repeat refine AWp.seq ?_
    refine AWp.reg1 {} hT (fun A hA => by
        have f0 := ar_len hA X n hn
        have f1 := ar_len hA Y m hm
        have f2 := ar_ne hA hnm
        repeat (cbv; simp only [f0, f1, f2])
        cbv) (Nat.zero_le _) ?_
    try dsimp only [AExit.then, AExit.block]
    repeat refine AWp.seq ?_
    refine AWp.cond (b := true) rfl ?_
    rw [if_pos rfl]
    repeat refine AWp.seq ?_
    refine AWp.reg1 {} hT (fun A hA => by cbv) (Nat.zero_le _) ?_
    try dsimp only [AExit.then, AExit.block]
    repeat refine AWp.seq ?_
    refine AWp.ret ⟨?_, rfl, rfl, Nat.zero_le _, _, rfl⟩
    have : x ≠ y := by rintro rfl; omega
    simp [this]; rfl
end Go.Am

set_option maxRecDepth 100000
set_option linter.unusedVariables false
set_option linter.unusedSimpArgs false
namespace Go.Am
open Go Go.Proofs
end Go.Am

set_option maxRecDepth 100000
set_option linter.unusedVariables false
set_option linter.unusedSimpArgs false
namespace Go.Am
open Go Go.Proofs
def inS (x : List (List Acc)) (s : Sta) : Prop := 0 ≤ s.1 ∧ s.1 < (x.length : Int) ∧ 0 ≤ s.2.1 ∧ s.2.1 ≤ s.2.2 ∧ s.2.2 < ((x.getD s.1.toNat []).length : Int) ∧ (s.2.1 = s.2.2 ∨ isPair x s = true)
theorem nodup_range (n : Nat) : (List.range n).Nodup := List.nodup_range
section
variable (x : List (List Acc))
theorem turned_len : (turned x).length = x.length := by simp [turned]
def rl (t : Int) : Int := ((x.getD t.toNat []).length : Int)
theorem there_iff (t a : Int) : there x t a = true ↔ 0 ≤ t ∧ t < (x.length : Int) ∧ 0 ≤ a ∧ a < rl x t := by
  unfold there rl
  rw [List.getD_eq_getElem?_getD]
  simp only [Bool.and_eq_true, decide_eq_true_eq]
  constructor
  · rintro ⟨h0, h⟩
    split at h
    · rename_i L hL
      simp only [Bool.and_eq_true, decide_eq_true_eq] at h
      have := (List.getElem?_eq_some_iff.1 hL).1
      rw [hL]
      exact ⟨h0, by omega, h.1, h.2⟩
    · cases h
  · rintro ⟨h0, h1, h2, h3⟩
    refine ⟨h0, ?_⟩
    rw [List.getElem?_eq_getElem (by omega)] at h3 ⊢
    simpa using ⟨h2, h3⟩
end
theorem big_turned (x : List (List Acc)) (h : Big x) : Big (turned x) := by
  refine ⟨by rw [turned_len]; exact h.1, fun l hl => ?_⟩
  unfold turned at hl
  obtain ⟨l', hl', rfl⟩ := List.mem_map.1 hl
  rw [List.length_reverse]
  exact h.2 l' hl'
end Go.Am

set_option maxRecDepth 100000
set_option linter.unusedVariables false
set_option linter.unusedSimpArgs false
namespace Go.Am
open Go Go.Proofs
end Go.Am

set_option maxRecDepth 100000
set_option linter.unusedVariables false
set_option linter.unusedSimpArgs false
namespace Go.Am
open Go Go.Proofs
end Go.Am

set_option maxRecDepth 100000
set_option linter.unusedVariables false
set_option linter.unusedSimpArgs false
namespace Go.Am
open Go Go.Proofs
end Go.Am

set_option maxRecDepth 100000
set_option linter.unusedVariables false
set_option linter.unusedSimpArgs false
namespace Go.Am
open Go Go.Proofs
end Go.Am

set_option maxRecDepth 100000
set_option linter.unusedVariables false
set_option linter.unusedSimpArgs false
namespace Go.Am
open Go Go.Proofs
abbrev Fen := Int × Int
def dFen (f : Fen) : D := .agg [I f.1, I f.2]
def cmpI (a b : Int) : Int := if a < b then -1 else if b < a then 1 else 0
def cmpF (f g : Fen) : Int := if cmpI f.1 g.1 ≠ 0 then cmpI f.1 g.1 else cmpI f.2 g.2
theorem nan_ok (a : Int) : ACall P 134 [AI a] [] (AB false) [] := by
  refine ACall.enter hT (fn := Try.f134) Try.func134 rfl (by decide) (by simp [Try.f134]) rfl rfl rfl rfl (Nat.le_refl _) ?_
  repeat refine AWp.seq ?_
  refine AWp.reg1 {} hT (fun A hA => by cbv) (Nat.zero_le _) ?_
  try dsimp only [AExit.then, AExit.block]
  repeat refine AWp.seq ?_
  refine AWp.reg1 {} hT (fun A hA => by
      have f0 := ar_eq hA (rfl : a = a)
      repeat (cbv; simp only [f0])
      cbv) (Nat.zero_le _) ?_
  try dsimp only [AExit.then, AExit.block]
  repeat refine AWp.seq ?_
  refine AWp.ret ⟨?_, rfl, rfl, Nat.zero_le _, _, rfl⟩
  rfl
theorem cmp_ok (a b : Int) : ACall P 109 [AI a, AI b] [] (AI (cmpI a b)) [] := by
  have ca := nan_ok a
  have cb := nan_ok b
  unfold cmpI
  by_cases h : a < b
  · rw [if_pos h]
    refine ACall.enter hT (fn := Try.f109) Try.func109 rfl (by decide) (by simp [Try.f109]) rfl rfl rfl rfl (Nat.le_refl _) ?_
    repeat refine AWp.seq ?_
    refine AWp.reg1 {} hT (fun A hA => by cbv) (Nat.zero_le _) ?_
    try dsimp only [AExit.then, AExit.block]
    repeat refine AWp.seq ?_
    refine AWp.region ?_
    refine AOps.stepCall hT (an := {}) (fun A hA => by cbv) (Nat.zero_le _) rfl (.inr rfl) rfl rfl rfl (Nat.le_of_ble_eq_true rfl) rfl rfl (ca) ?_
    refine AOps.done hT (an := {}) (fun A hA => by cbv) (Nat.zero_le _) ?_
    try dsimp only [AExit.then, AExit.block]
    repeat refine AWp.seq ?_
    refine AWp.region ?_
    refine AOps.stepCall hT (an := {}) (fun A hA => by cbv) (Nat.zero_le _) rfl (.inr rfl) rfl rfl rfl (Nat.le_of_ble_eq_true rfl) rfl rfl (cb) ?_
    refine AOps.done hT (an := {}) (fun A hA => by cbv) (Nat.zero_le _) ?_
    try dsimp only [AExit.then, AExit.block]
    repeat refine AWp.seq ?_
    refine AWp.reg1 {} hT (fun A hA => by cbv) (Nat.zero_le _) ?_
    try dsimp only [AExit.then, AExit.block]
    repeat refine AWp.seq ?_
    refine AWp.cond (b := false) rfl (AWp.skip ?_)
    try dsimp only [AExit.then, AExit.block]
    repeat refine AWp.seq ?_
    refine AWp.reg1 {} hT (fun A hA => by cbv) (Nat.zero_le _) ?_
    try dsimp only [AExit.then, AExit.block]
    repeat refine AWp.seq ?_
    refine AWp.cond (b := false) rfl (AWp.skip ?_)
    try dsimp only [AExit.then, AExit.block]
    repeat refine AWp.seq ?_
    refine AWp.reg1 {} hT (fun A hA => by
        have f0 := ar_lt hA h
        repeat (cbv; simp only [f0])
        cbv) (Nat.zero_le _) ?_
    try dsimp only [AExit.then, AExit.block]
    repeat refine AWp.seq ?_
    refine AWp.cond (b := true) rfl ?_
    rw [if_pos rfl]
    repeat refine AWp.seq ?_
    refine AWp.reg1 {} hT (fun A hA => by cbv) (Nat.zero_le _) ?_
    try dsimp only [AExit.then, AExit.block]
    repeat refine AWp.seq ?_
    refine AWp.ret ⟨?_, rfl, rfl, Nat.zero_le _, _, rfl⟩
    rfl
  · rw [if_neg h]
    by_cases h2 : b < a
    · rw [if_pos h2]
      refine ACall.enter hT (fn := Try.f109) Try.func109 rfl (by decide) (by simp [Try.f109]) rfl rfl rfl rfl (Nat.le_refl _) ?_
      repeat refine AWp.seq ?_
      refine AWp.reg1 {} hT (fun A hA => by cbv) (Nat.zero_le _) ?_
      try dsimp only [AExit.then, AExit.block]
      repeat refine AWp.seq ?_
      refine AWp.region ?_
      refine AOps.stepCall hT (an := {}) (fun A hA => by cbv) (Nat.zero_le _) rfl (.inr rfl) rfl rfl rfl (Nat.le_of_ble_eq_true rfl) rfl rfl (ca) ?_
      refine AOps.done hT (an := {}) (fun A hA => by cbv) (Nat.zero_le _) ?_
      try dsimp only [AExit.then, AExit.block]
      repeat refine AWp.seq ?_
      refine AWp.region ?_
      refine AOps.stepCall hT (an := {}) (fun A hA => by cbv) (Nat.zero_le _) rfl (.inr rfl) rfl rfl rfl (Nat.le_of_ble_eq_true rfl) rfl rfl (cb) ?_
      refine AOps.done hT (an := {}) (fun A hA => by cbv) (Nat.zero_le _) ?_
      try dsimp only [AExit.then, AExit.block]
      repeat refine AWp.seq ?_
      refine AWp.reg1 {} hT (fun A hA => by cbv) (Nat.zero_le _) ?_
      try dsimp only [AExit.then, AExit.block]
      repeat refine AWp.seq ?_
      refine AWp.cond (b := false) rfl (AWp.skip ?_)
      try dsimp only [AExit.then, AExit.block]
      repeat refine AWp.seq ?_
      refine AWp.reg1 {} hT (fun A hA => by cbv) (Nat.zero_le _) ?_
      try dsimp only [AExit.then, AExit.block]
      repeat refine AWp.seq ?_
      refine AWp.cond (b := false) rfl (AWp.skip ?_)
      try dsimp only [AExit.then, AExit.block]
      repeat refine AWp.seq ?_
      refine AWp.reg1 {} hT (fun A hA => by
          have f0 := ar_nlt hA h
          repeat (cbv; simp only [f0])
          cbv) (Nat.zero_le _) ?_
      try dsimp only [AExit.then, AExit.block]
      repeat refine AWp.seq ?_
      refine AWp.cond (b := false) rfl (AWp.skip ?_)
      try dsimp only [AExit.then, AExit.block]
      repeat refine AWp.seq ?_
      refine AWp.reg1 {} hT (fun A hA => by
          have f0 := ar_lt hA h2
          repeat (cbv; simp only [f0])
          cbv) (Nat.zero_le _) ?_
      try dsimp only [AExit.then, AExit.block]
      repeat refine AWp.seq ?_
      refine AWp.cond (b := true) rfl ?_
      rw [if_pos rfl]
      repeat refine AWp.seq ?_
      refine AWp.reg1 {} hT (fun A hA => by cbv) (Nat.zero_le _) ?_
      try dsimp only [AExit.then, AExit.block]
      repeat refine AWp.seq ?_
      refine AWp.ret ⟨?_, rfl, rfl, Nat.zero_le _, _, rfl⟩
      rfl
    · rw [if_neg h2]
      refine ACall.enter hT (fn := Try.f109) Try.func109 rfl (by decide) (by simp [Try.f109]) rfl rfl rfl rfl (Nat.le_refl _) ?_
      repeat refine AWp.seq ?_
      refine AWp.reg1 {} hT (fun A hA => by cbv) (Nat.zero_le _) ?_
      try dsimp only [AExit.then, AExit.block]
      repeat refine AWp.seq ?_
      refine AWp.region ?_
      refine AOps.stepCall hT (an := {}) (fun A hA => by cbv) (Nat.zero_le _) rfl (.inr rfl) rfl rfl rfl (Nat.le_of_ble_eq_true rfl) rfl rfl (ca) ?_
      refine AOps.done hT (an := {}) (fun A hA => by cbv) (Nat.zero_le _) ?_
      try dsimp only [AExit.then, AExit.block]
      repeat refine AWp.seq ?_
      refine AWp.region ?_
      refine AOps.stepCall hT (an := {}) (fun A hA => by cbv) (Nat.zero_le _) rfl (.inr rfl) rfl rfl rfl (Nat.le_of_ble_eq_true rfl) rfl rfl (cb) ?_
      refine AOps.done hT (an := {}) (fun A hA => by cbv) (Nat.zero_le _) ?_
      try dsimp only [AExit.then, AExit.block]
      repeat refine AWp.seq ?_
      refine AWp.reg1 {} hT (fun A hA => by cbv) (Nat.zero_le _) ?_
      try dsimp only [AExit.then, AExit.block]
      repeat refine AWp.seq ?_
      refine AWp.cond (b := false) rfl (AWp.skip ?_)
      try dsimp only [AExit.then, AExit.block]
      repeat refine AWp.seq ?_
      refine AWp.reg1 {} hT (fun A hA => by cbv) (Nat.zero_le _) ?_
      try dsimp only [AExit.then, AExit.block]
      repeat refine AWp.seq ?_
      refine AWp.cond (b := false) rfl (AWp.skip ?_)
      try dsimp only [AExit.then, AExit.block]
      repeat refine AWp.seq ?_
      refine AWp.reg1 {} hT (fun A hA => by
          have f0 := ar_nlt hA h
          repeat (cbv; simp only [f0])
          cbv) (Nat.zero_le _) ?_
      try dsimp only [AExit.then, AExit.block]
      repeat refine AWp.seq ?_
      refine AWp.cond (b := false) rfl (AWp.skip ?_)
      try dsimp only [AExit.then, AExit.block]
      repeat refine AWp.seq ?_
      refine AWp.reg1 {} hT (fun A hA => by
          have f0 := ar_nlt hA h2
          repeat (cbv; simp only [f0])
          cbv) (Nat.zero_le _) ?_
      try dsimp only [AExit.then, AExit.block]
      repeat refine AWp.seq ?_
      refine AWp.cond (b := false) rfl (AWp.skip ?_)
      try dsimp only [AExit.then, AExit.block]
      repeat refine AWp.seq ?_
      refine AWp.reg1 {} hT (fun A hA => by cbv) (Nat.zero_le _) ?_
      try dsimp only [AExit.then, AExit.block]
      repeat refine AWp.seq ?_
      refine AWp.ret ⟨?_, rfl, rfl, Nat.zero_le _, _, rfl⟩
      rfl
theorem compare_ok (a b a' b' : Int) : ACall P 135 [.d (.list 1 [I a, I b]), .d (.list 1 [I a', I b'])] [] (AI (cmpF (a, b) (a', b'))) [] := by
  have c1 := cmp_ok a a'
  have c2 := cmp_ok b b'
  have hF : cmpF (a, b) (a', b') = if cmpI a a' ≠ 0 then cmpI a a' else cmpI b b' := rfl
  obtain ⟨X, hX, hX0, hX1, hXn⟩ : ∃ X, [I a, I b] = X ∧ X[(0 : Int).toNat]? = some (I a) ∧ X[(1 : Int).toNat]? = some (I b) ∧ (X.length : Int) = 2 := ⟨_, rfl, rfl, rfl, rfl⟩
  obtain ⟨Y, hY, hY0, hY1, hYn⟩ : ∃ X, [I a', I b'] = X ∧ X[(0 : Int).toNat]? = some (I a') ∧ X[(1 : Int).toNat]? = some (I b') ∧ (X.length : Int) = 2 := ⟨_, rfl, rfl, rfl, rfl⟩
  rw [hX, hY, hF]
  obtain ⟨q1, hq1⟩ : ∃ q, cmpI a a' = q := ⟨_, rfl⟩
  obtain ⟨q2, hq2⟩ : ∃ q, cmpI b b' = q := ⟨_, rfl⟩
  rw [hq1] at c1 ⊢
  rw [hq2] at c2 ⊢
  refine ACall.enter hT (fn := Try.f135) Try.func135 rfl (by decide) (by simp [Try.f135]) rfl rfl rfl rfl (Nat.le_refl _) ?_
  repeat refine AWp.seq ?_
  refine AWp.reg1 {} hT (fun A hA => by cbv) (Nat.zero_le _) ?_
  try dsimp only [AExit.then, AExit.block]
  repeat refine AWp.seq ?_
  refine AWp.reg1 {} hT (fun A hA => by
      have f0 := ar_len hA X 2 hXn
      repeat (cbv; simp only [f0])
      cbv) (Nat.zero_le _) ?_
  try dsimp only [AExit.then, AExit.block]
  refine AWp.block (AWp.loopInv (ι := Int) (fun z => (z = 0 ∨ z = 1 ∨ z = 2) ∧ (1 ≤ z → q1 = 0) ∧ (2 ≤ z → q2 = 0)) (fun z => (2 - z).toNat) [0, 1, 9, 10, 11]
    (fun z => { env := [(0, .d (.list 1 X)), (1, .d (.list 1 Y)), (9, .d (.list 1 X)), (10, AI 2), (11, AI z)], heap := [], n := 36 }) 0 (by cbv) ⟨.inl rfl, by omega, by omega⟩ ?_)
  rintro z ⟨h0 | h0 | h0, h1, h2⟩
  · subst h0
    repeat refine AWp.seq ?_
    refine AWp.reg1 {} hT (fun A hA => by
        have f0 := ar_lt hA (show (0 : Int) < 2 by omega)
        repeat (cbv; simp only [f0])
        cbv) (Nat.zero_le _) ?_
    try dsimp only [AExit.then, AExit.block]
    repeat refine AWp.seq ?_
    refine AWp.cond (b := true) rfl (AWp.skip ?_)
    try dsimp only [AExit.then, AExit.block]
    repeat refine AWp.seq ?_
    refine AWp.block ?_
    repeat refine AWp.seq ?_
    refine AWp.reg1 {} hT (fun A hA => by
        have f0 := ar_get hA hX0
        have f1 := ar_le hA (show (0 : Int) ≤ 0 by omega)
        repeat (cbv; simp only [f0, f1])
        cbv) (Nat.zero_le _) ?_
    try dsimp only [AExit.then, AExit.block]
    repeat refine AWp.seq ?_
    refine AWp.reg1 {} hT (fun A hA => by
        have f0 := ar_len hA Y 2 hYn
        have f1 := ar_nle hA (show ¬ (2 : Int) ≤ 0 by omega)
        repeat (cbv; simp only [f0, f1])
        cbv) (Nat.zero_le _) ?_
    try dsimp only [AExit.then, AExit.block]
    repeat refine AWp.seq ?_
    refine AWp.cond (b := false) rfl (AWp.skip ?_)
    try dsimp only [AExit.then, AExit.block]
    repeat refine AWp.seq ?_
    refine AWp.reg1 {} hT (fun A hA => by
        have f0 := ar_get hA hY0
        have f1 := ar_le hA (show (0 : Int) ≤ 0 by omega)
        repeat (cbv; simp only [f0, f1])
        cbv) (Nat.zero_le _) ?_
    try dsimp only [AExit.then, AExit.block]
    repeat refine AWp.seq ?_
    refine AWp.region ?_
    refine AOps.stepCall hT (an := {}) (fun A hA => by cbv) (Nat.zero_le _) rfl (.inr rfl) rfl rfl rfl (Nat.le_of_ble_eq_true rfl) rfl rfl (c1) ?_
    refine AOps.done hT (an := {}) (fun A hA => by cbv) (Nat.zero_le _) ?_
    try dsimp only [AExit.then, AExit.block]
    by_cases e : q1 = 0
    · repeat refine AWp.seq ?_
      refine AWp.reg1 {} hT (fun A hA => by
          have f0 := ar_eq hA e
          repeat (cbv; simp only [f0])
          cbv) (Nat.zero_le _) ?_
      try dsimp only [AExit.then, AExit.block]
      repeat refine AWp.seq ?_
      refine AWp.cond (b := false) rfl (AWp.skip ?_)
      try dsimp only [AExit.then, AExit.block]
      repeat refine AWp.seq ?_
      refine AWp.reg1 {} hT (fun A hA => by
          have f0 := ar_add hA 0 1 1 rfl (by omega) (by omega)
          repeat (cbv; simp only [f0])
          cbv) (Nat.zero_le _) ?_
      try dsimp only [AExit.then, AExit.block]
      exact ⟨1, ⟨by omega, fun _ => e, by omega⟩, by omega, by cbv⟩
    · repeat refine AWp.seq ?_
      refine AWp.reg1 {} hT (fun A hA => by
          have f0 := ar_ne hA e
          repeat (cbv; simp only [f0])
          cbv) (Nat.zero_le _) ?_
      try dsimp only [AExit.then, AExit.block]
      repeat refine AWp.seq ?_
      refine AWp.cond (b := true) rfl ?_
      rw [if_pos rfl]
      repeat refine AWp.seq ?_
      refine AWp.reg1 {} hT (fun A hA => by cbv) (Nat.zero_le _) ?_
      try dsimp only [AExit.then, AExit.block]
      repeat refine AWp.seq ?_
      refine AWp.ret ⟨?_, rfl, rfl, Nat.zero_le _, _, rfl⟩
      rw [if_pos e]; rfl
  · subst h0
    have e1 := h1 (by omega)
    repeat refine AWp.seq ?_
    refine AWp.reg1 {} hT (fun A hA => by
        have f0 := ar_lt hA (show (1 : Int) < 2 by omega)
        repeat (cbv; simp only [f0])
        cbv) (Nat.zero_le _) ?_
    try dsimp only [AExit.then, AExit.block]
    repeat refine AWp.seq ?_
    refine AWp.cond (b := true) rfl (AWp.skip ?_)
    try dsimp only [AExit.then, AExit.block]
    repeat refine AWp.seq ?_
    refine AWp.block ?_
    repeat refine AWp.seq ?_
    refine AWp.reg1 {} hT (fun A hA => by
        have f0 := ar_get hA hX1
        have f1 := ar_le hA (show (0 : Int) ≤ 1 by omega)
        repeat (cbv; simp only [f0, f1])
        cbv) (Nat.zero_le _) ?_
    try dsimp only [AExit.then, AExit.block]
    repeat refine AWp.seq ?_
    refine AWp.reg1 {} hT (fun A hA => by
        have f0 := ar_len hA Y 2 hYn
        have f1 := ar_nle hA (show ¬ (2 : Int) ≤ 1 by omega)
        repeat (cbv; simp only [f0, f1])
        cbv) (Nat.zero_le _) ?_
    try dsimp only [AExit.then, AExit.block]
    repeat refine AWp.seq ?_
    refine AWp.cond (b := false) rfl (AWp.skip ?_)
    try dsimp only [AExit.then, AExit.block]
    repeat refine AWp.seq ?_
    refine AWp.reg1 {} hT (fun A hA => by
        have f0 := ar_get hA hY1
        have f1 := ar_le hA (show (0 : Int) ≤ 1 by omega)
        repeat (cbv; simp only [f0, f1])
        cbv) (Nat.zero_le _) ?_
    try dsimp only [AExit.then, AExit.block]
    repeat refine AWp.seq ?_
    refine AWp.region ?_
    refine AOps.stepCall hT (an := {}) (fun A hA => by cbv) (Nat.zero_le _) rfl (.inr rfl) rfl rfl rfl (Nat.le_of_ble_eq_true rfl) rfl rfl (c2) ?_
    refine AOps.done hT (an := {}) (fun A hA => by cbv) (Nat.zero_le _) ?_
    try dsimp only [AExit.then, AExit.block]
    by_cases e : q2 = 0
    · repeat refine AWp.seq ?_
      refine AWp.reg1 {} hT (fun A hA => by
          have f0 := ar_eq hA e
          repeat (cbv; simp only [f0])
          cbv) (Nat.zero_le _) ?_
      try dsimp only [AExit.then, AExit.block]
      repeat refine AWp.seq ?_
      refine AWp.cond (b := false) rfl (AWp.skip ?_)
      try dsimp only [AExit.then, AExit.block]
      repeat refine AWp.seq ?_
      refine AWp.reg1 {} hT (fun A hA => by
          have f0 := ar_add hA 1 1 2 rfl (by omega) (by omega)
          repeat (cbv; simp only [f0])
          cbv) (Nat.zero_le _) ?_
      try dsimp only [AExit.then, AExit.block]
      exact ⟨2, ⟨by omega, fun _ => e1, fun _ => e⟩, by omega, by cbv⟩
    · repeat refine AWp.seq ?_
      refine AWp.reg1 {} hT (fun A hA => by
          have f0 := ar_ne hA e
          repeat (cbv; simp only [f0])
          cbv) (Nat.zero_le _) ?_
      try dsimp only [AExit.then, AExit.block]
      repeat refine AWp.seq ?_
      refine AWp.cond (b := true) rfl ?_
      rw [if_pos rfl]
      repeat refine AWp.seq ?_
      refine AWp.reg1 {} hT (fun A hA => by cbv) (Nat.zero_le _) ?_
      try dsimp only [AExit.then, AExit.block]
      repeat refine AWp.seq ?_
      refine AWp.ret ⟨?_, rfl, rfl, Nat.zero_le _, _, rfl⟩
      rw [if_neg (by simpa using e1)]; rfl
  · subst h0
    have e1 := h1 (by omega)
    have e2 := h2 (by omega)
    subst e1 e2
    repeat refine AWp.seq ?_
    refine AWp.reg1 {} hT (fun A hA => by
        have f0 := ar_nlt hA (show ¬ (2 : Int) < 2 by omega)
        repeat (cbv; simp only [f0])
        cbv) (Nat.zero_le _) ?_
    try dsimp only [AExit.then, AExit.block]
    repeat refine AWp.seq ?_
    refine AWp.cond (b := false) rfl (AWp.exit ?_)
    try dsimp only [AExit.then, AExit.block]
    rw [if_pos rfl]
    repeat refine AWp.seq ?_
    refine AWp.reg1 {} hT (fun A hA => by
        have f0 := ar_len hA X 2 hXn
        have f1 := ar_len hA Y 2 hYn
        have f2 := ar_nlt hA (show ¬ (2 : Int) < 2 by omega)
        repeat (cbv; simp only [f0, f1, f2])
        cbv) (Nat.zero_le _) ?_
    try dsimp only [AExit.then, AExit.block]
    repeat refine AWp.seq ?_
    refine AWp.cond (b := false) rfl (AWp.skip ?_)
    try dsimp only [AExit.then, AExit.block]
    repeat refine AWp.seq ?_
    refine AWp.reg1 {} hT (fun A hA => by cbv) (Nat.zero_le _) ?_
    try dsimp only [AExit.then, AExit.block]
    repeat refine AWp.seq ?_
    refine AWp.ret ⟨?_, rfl, rfl, Nat.zero_le _, _, rfl⟩
    rfl
theorem index128 (l : List Fen) (s : Fen) (hl : l.length ≤ 9223372036854775807) : ∃ r : Int, decide (0 ≤ r) = l.contains s ∧ ACall P 128 [.d (.list 2 (l.map dFen)), .d (dFen s)] [] (AI r) [] := by
  refine ⟨match l.findIdx? (fun u => decide (s = u)) with | some i => (i : Int) | none => -1, ?_, ?_⟩
  · cases h : l.findIdx? (fun u => decide (s = u)) with
    | none =>
      rw [List.findIdx?_eq_none_iff] at h
      have : l.contains s = false := by
        rw [List.contains_eq_mem, decide_eq_false_iff_not]
        intro hm
        have := h s hm
        simp at this
      rw [this]; rfl
    | some i =>
      obtain ⟨h1, h2, _⟩ := List.findIdx?_eq_some_iff_getElem.1 h
      have : l.contains s = true := by
        rw [List.contains_eq_mem, decide_eq_true_eq, of_decide_eq_true h2]
        exact List.getElem_mem h1
      rw [this]; simp
  obtain ⟨X, hX⟩ : ∃ X, l.map dFen = X := ⟨_, rfl⟩
  obtain ⟨n, hn⟩ : ∃ n : Int, (X.length : Int) = n := ⟨_, rfl⟩
  have hln : (l.length : Int) = n := by rw [← hn, ← hX]; simp
  obtain ⟨a, b⟩ := s
  rw [hX]
  unfold dFen
  dsimp only
  refine ACall.enter hT (fn := Try.f128) Try.func128 rfl (by decide) (by simp [Try.f128]) rfl rfl rfl rfl (Nat.le_refl _) ?_
  repeat refine AWp.seq ?_
  refine AWp.reg1 {} hT (fun A hA => by cbv) (Nat.zero_le _) ?_
  try dsimp only [AExit.then, AExit.block]
  repeat refine AWp.seq ?_
  refine AWp.reg1 {} hT (fun A hA => by
      have f0 := ar_len hA X n hn
      repeat (cbv; simp only [f0])
      cbv) (Nat.zero_le _) ?_
  try dsimp only [AExit.then, AExit.block]
  refine AWp.block (AWp.loopInv (ι := Int) (fun z => 0 ≤ z ∧ z ≤ n ∧ ∀ u ∈ l.take z.toNat, decide ((a, b) = u) = false) (fun z => (n - z).toNat) [0, 3, 6, 7, 8]
    (fun z => { env := [(0, .d (.list 2 X)), (3, .lbox [AI a, AI b]), (6, .d (.list 2 X)), (7, AI n), (8, AI z)], heap := [], n := 19 }) 0 (by cbv) ⟨Int.le_refl _, by omega, by simp⟩ ?_)
  rintro z ⟨h0, h1, h2⟩
  by_cases hz : z < n
  · obtain ⟨z1, hz1⟩ : ∃ z1, z + 1 = z1 := ⟨_, rfl⟩
    obtain ⟨⟨a', b'⟩, hs⟩ : ∃ s, l[z.toNat]? = some s := ⟨_, List.getElem?_eq_getElem (by omega)⟩
    have hXs : X[z.toNat]? = some (.agg [I a', I b']) := by rw [← hX, List.getElem?_map, hs]; rfl
    obtain ⟨r, hr⟩ : ∃ r, decide ((a, b) = (a', b')) = r := ⟨_, rfl⟩
    have hdeq : ∀ A : Ar, A = Ar.std → A.deq [I a, I b] [I a', I b'] = r := fun A hA => ar_deq hA (by rw [← hr]; simp)
    repeat refine AWp.seq ?_
    refine AWp.reg1 {} hT (fun A hA => by
        have f0 := ar_lt hA hz
        repeat (cbv; simp only [f0])
        cbv) (Nat.zero_le _) ?_
    try dsimp only [AExit.then, AExit.block]
    repeat refine AWp.seq ?_
    refine AWp.cond (b := true) rfl (AWp.skip ?_)
    try dsimp only [AExit.then, AExit.block]
    repeat refine AWp.seq ?_
    refine AWp.block ?_
    repeat refine AWp.seq ?_
    refine AWp.reg1 {} hT (fun A hA => by cbv) (Nat.zero_le _) ?_
    try dsimp only [AExit.then, AExit.block]
    cases r with
    | true =>
      repeat refine AWp.seq ?_
      refine AWp.reg1D {} hT rfl (fun A hA => by
          have f0 := ar_get hA hXs
          have f1 := ar_le hA h0
          have f2 := hdeq A hA
          repeat (cbv; simp only [f0, f1, f2])
          cbv) (by kernel_rfl) (Nat.zero_le _) ?_
      try dsimp only [AExit.then, AExit.block]
      repeat refine AWp.seq ?_
      refine AWp.cond (b := true) rfl ?_
      rw [if_pos rfl]
      repeat refine AWp.seq ?_
      refine AWp.reg1 {} hT (fun A hA => by cbv) (Nat.zero_le _) ?_
      try dsimp only [AExit.then, AExit.block]
      repeat refine AWp.seq ?_
      refine AWp.ret ⟨?_, rfl, rfl, Nat.zero_le _, _, rfl⟩
      have : l.findIdx? (fun u => decide ((a, b) = u)) = some z.toNat := by
        rw [List.findIdx?_eq_some_iff_getElem]
        refine ⟨by omega, ?_, fun j hj => ?_⟩
        · rw [List.getElem?_eq_getElem (by omega)] at hs; injection hs with hs; rw [hs]; exact hr
        · have := h2 l[j] (by rw [List.mem_take_iff_getElem]; exact ⟨j, by omega, rfl⟩)
          rw [this]; decide
      rw [this]
      show _ = some (AI (z.toNat : Int))
      rw [show (z.toNat : Int) = z by omega]
      rfl
    | false =>
      repeat refine AWp.seq ?_
      refine AWp.reg1D {} hT rfl (fun A hA => by
          have f0 := ar_get hA hXs
          have f1 := ar_le hA h0
          have f2 := hdeq A hA
          repeat (cbv; simp only [f0, f1, f2])
          cbv) (by kernel_rfl) (Nat.zero_le _) ?_
      try dsimp only [AExit.then, AExit.block]
      repeat refine AWp.seq ?_
      refine AWp.cond (b := false) rfl (AWp.skip ?_)
      try dsimp only [AExit.then, AExit.block]
      repeat refine AWp.seq ?_
      refine AWp.reg1 {} hT (fun A hA => by
          have f0 := ar_add hA z 1 z1 hz1 (by omega) (by omega)
          repeat (cbv; simp only [f0])
          cbv) (Nat.zero_le _) ?_
      try dsimp only [AExit.then, AExit.block]
      refine ⟨z1, ⟨by omega, by omega, ?_⟩, by omega, by cbv⟩
      intro u hu
      rw [show z1.toNat = z.toNat + 1 by omega, List.take_add_one, hs] at hu
      simp only [Option.toList_some, List.mem_append, List.mem_singleton] at hu
      rcases hu with hu | rfl
      · exact h2 u hu
      · exact hr
  · repeat refine AWp.seq ?_
    refine AWp.reg1 {} hT (fun A hA => by
        have f0 := ar_nlt hA hz
        repeat (cbv; simp only [f0])
        cbv) (Nat.zero_le _) ?_
    try dsimp only [AExit.then, AExit.block]
    repeat refine AWp.seq ?_
    refine AWp.cond (b := false) rfl (AWp.exit ?_)
    try dsimp only [AExit.then, AExit.block]
    rw [if_pos rfl]
    repeat refine AWp.seq ?_
    refine AWp.reg1 {} hT (fun A hA => by cbv) (Nat.zero_le _) ?_
    try dsimp only [AExit.then, AExit.block]
    repeat refine AWp.seq ?_
    refine AWp.ret ⟨?_, rfl, rfl, Nat.zero_le _, _, rfl⟩
    have : l.findIdx? (fun u => decide ((a, b) = u)) = none := by
      rw [List.findIdx?_eq_none_iff]
      intro y hy
      exact h2 y (by rw [List.take_of_length_le (by omega)]; exact hy)
    rw [this]
    rfl
theorem contains_fen_ok (l : List Fen) (s : Fen) (hl : l.length ≤ 9223372036854775807) : ACall P 96 [.d (.list 2 (l.map dFen)), .d (dFen s)] [] (AB (l.contains s)) [] := by
  obtain ⟨r, hr, hc⟩ := index128 l s hl
  obtain ⟨b, hb⟩ : ∃ b, l.contains s = b := ⟨_, rfl⟩
  rw [hb] at hr ⊢
  obtain ⟨X, hX⟩ : ∃ X, l.map dFen = X := ⟨_, rfl⟩
  rw [hX] at hc ⊢
  obtain ⟨a, b'⟩ := s
  unfold dFen at *
  dsimp only at *
  have hrb : ∀ A : Ar, A = Ar.std → A.zle 0 r = b := fun A hA => by subst hA; exact hr
  refine ACall.enter hT (fn := Try.f96) Try.func96 rfl (by decide) (by simp [Try.f96]) rfl rfl rfl rfl (Nat.le_refl _) ?_
  repeat refine AWp.seq ?_
  refine AWp.reg1 {} hT (fun A hA => by cbv) (Nat.zero_le _) ?_
  try dsimp only [AExit.then, AExit.block]
  repeat refine AWp.seq ?_
  refine AWp.region ?_
  refine AOps.stepCall hT (an := {}) (fun A hA => by cbv) (Nat.zero_le _) rfl (.inr rfl) rfl rfl rfl (Nat.le_of_ble_eq_true rfl) rfl rfl (hc) ?_
  refine AOps.done hT (an := {}) (fun A hA => by
      have f0 := hrb A hA
      repeat (cbv; simp only [f0])
      cbv) (Nat.zero_le _) ?_
  try dsimp only [AExit.then, AExit.block]
  repeat refine AWp.seq ?_
  refine AWp.ret ⟨?_, rfl, rfl, Nat.zero_le _, _, rfl⟩
  rfl
def fenRow (t n : Nat) : List Fen := (List.range n).map fun (g : Nat) => ((t : Int), (g : Int))
def fenT (x : List (List Acc)) (n : Nat) : List Fen := (List.range n).flatMap fun t => fenRow t ((x.getD t []).length - 1)
def fencesL (x : List (List Acc)) : List Fen := fenT x x.length
theorem fencesL_ok (x : List (List Acc)) (hx : Small x) : ACall P 104 [.d (dX x)] [] (.own 2 ((fencesL x).map dFen)) [] := by
  unfold dX at *
  obtain ⟨X, hX⟩ : ∃ X, x.map dAccs = X := ⟨_, rfl⟩
  obtain ⟨n, hn⟩ : ∃ n : Int, (X.length : Int) = n := ⟨_, rfl⟩
  have hxl : (x.length : Int) = n := by rw [← hn, ← hX]; simp
  have hs := hx.1
  rw [hX]
  have hS : ∀ m, fenT x (m + 1) = fenT x m ++ fenRow m ((x.getD m []).length - 1) := fun m => flatMap_range_succ _ _
  have hSA : ∀ t m, fenRow t (m + 1) = fenRow t m ++ [((t : Int), (m : Int))] := fun t m => by unfold fenRow; rw [List.range_succ, List.map_append]; rfl
  refine ACall.enter hT (fn := Try.f104) Try.func104 rfl (by decide) (by simp [Try.f104]) rfl rfl rfl rfl (Nat.le_refl _) ?_
  repeat refine AWp.seq ?_
  refine AWp.reg1 {tk := [2]} hT (fun A hA => by cbv) (Nat.zero_le _) ?_
  try dsimp only [AExit.then, AExit.block]
  repeat refine AWp.seq ?_
  refine AWp.reg1 {tk := [3]} hT (fun A hA => by cbv) (Nat.zero_le _) ?_
  try dsimp only [AExit.then, AExit.block]
  repeat refine AWp.seq ?_
  refine AWp.reg1 {} hT (fun A hA => by
      have f0 := ar_len hA X n hn
      repeat (cbv; simp only [f0])
      cbv) (Nat.zero_le _) ?_
  try dsimp only [AExit.then, AExit.block]
  refine AWp.block (AWp.loopInv (ι := Int × List D) (fun p => 0 ≤ p.1 ∧ p.1 ≤ n ∧ p.2 = (fenT x p.1.toNat).map dFen ∧ p.2.length ≤ p.1 * 1000) (fun p => (n - p.1).toNat) [0, 3, 7, 8, 9]
    (fun p => { env := [(0, .d (.list 1 X)), (3, .own 2 p.2), (7, .d (.list 1 X)), (8, AI n), (9, AI p.1)], heap := [], n := 30 }) (0, []) (by cbv) ⟨Int.le_refl _, by dsimp only; omega, rfl, by simp⟩ ?_)
  rintro ⟨z, l⟩ ⟨h0, h1, hl, hlen⟩
  dsimp only at *
  by_cases hz : z < n
  · obtain ⟨L, hL⟩ : ∃ L, x[z.toNat]? = some L := ⟨_, List.getElem?_eq_getElem (by omega)⟩
    obtain ⟨L', hL'⟩ : ∃ L', L.map dAcc = L' := ⟨_, rfl⟩
    obtain ⟨k, hk⟩ : ∃ n : Int, (L'.length : Int) = n := ⟨_, rfl⟩
    have hkL : (L.length : Int) = k := by rw [← hk, ← hL']; simp
    have hs2 := hx.2 L (List.mem_of_getElem? hL)
    have hXt : X[z.toNat]? = some (.list 2 L') := by rw [← hX, List.getElem?_map, hL, ← hL']; rfl
    obtain ⟨z1, hz1⟩ : ∃ z1, z + 1 = z1 := ⟨_, rfl⟩
    obtain ⟨k1, hk1⟩ : ∃ z1, k - 1 = z1 := ⟨_, rfl⟩
    obtain ⟨m, hm⟩ : ∃ m, max 0 k1 = m := ⟨_, rfl⟩
    have hmax : ∀ A : Ar, A = Ar.std → A.zmax 0 k1 = m := fun A hA => by subst hA; rw [← hm]; simp only [Ar.std]; split <;> omega
    have hmL : m.toNat = L.length - 1 := by omega
    repeat refine AWp.seq ?_
    refine AWp.reg1 {} hT (fun A hA => by
        have f0 := ar_lt hA hz
        repeat (cbv; simp only [f0])
        cbv) (Nat.zero_le _) ?_
    try dsimp only [AExit.then, AExit.block]
    repeat refine AWp.seq ?_
    refine AWp.cond (b := true) rfl (AWp.skip ?_)
    try dsimp only [AExit.then, AExit.block]
    repeat refine AWp.seq ?_
    refine AWp.block ?_
    repeat refine AWp.seq ?_
    refine AWp.reg1 {} hT (fun A hA => by
        have f0 := ar_get hA hXt
        have f1 := ar_le hA h0
        repeat (cbv; simp only [f0, f1])
        cbv) (Nat.zero_le _) ?_
    try dsimp only [AExit.then, AExit.block]
    repeat refine AWp.seq ?_
    refine AWp.reg1 {} hT (fun A hA => by
        have f0 := ar_len hA L' k hk
        have f1 := ar_sub hA k 1 k1 hk1 (by omega) (by omega)
        have f2 := hmax A hA
        repeat (cbv; simp only [f0, f1, f2])
        cbv) (Nat.zero_le _) ?_
    try dsimp only [AExit.then, AExit.block]
    refine AWp.block (AWp.loopInv (ι := Int × List D) (fun p => 0 ≤ p.1 ∧ p.1 ≤ m ∧ p.2 = l ++ (fenRow z.toNat p.1.toNat).map dFen ∧ p.2.length ≤ z * 1000 + p.1) (fun p => (m - p.1).toNat) [0, 3, 4, 7, 8, 9, 17, 18]
      (fun p => { env := [(0, .d (.list 1 X)), (3, .own 2 p.2), (4, AI z), (7, .d (.list 1 X)), (8, AI n), (9, AI z), (17, AI m), (18, AI p.1)], heap := [], n := 30 }) (0, l) (by cbv) ⟨Int.le_refl _, by dsimp only; omega, by simp [fenRow], by simpa using hlen⟩ ?_)
    rintro ⟨y, l1⟩ ⟨g0, g1, gl, glen⟩
    dsimp only at *
    by_cases hy : y < m
    · obtain ⟨y1, hy1⟩ : ∃ z1, y + 1 = z1 := ⟨_, rfl⟩
      obtain ⟨l3, hl3⟩ : ∃ l3, l1 ++ [.agg [I z, I y]] = l3 := ⟨_, rfl⟩
      repeat refine AWp.seq ?_
      refine AWp.reg1 {} hT (fun A hA => by
          have f0 := ar_lt hA hy
          repeat (cbv; simp only [f0])
          cbv) (Nat.zero_le _) ?_
      try dsimp only [AExit.then, AExit.block]
      repeat refine AWp.seq ?_
      refine AWp.cond (b := true) rfl (AWp.skip ?_)
      try dsimp only [AExit.then, AExit.block]
      repeat refine AWp.seq ?_
      refine AWp.block ?_
      repeat refine AWp.seq ?_
      refine AWp.reg1 {} hT (fun A hA => by cbv) (Nat.zero_le _) ?_
      try dsimp only [AExit.then, AExit.block]
      repeat refine AWp.seq ?_
      refine AWp.reg1 {tk := [3, 21, 26]} hT (fun A hA => by
          have f0 := ar_app hA _ _ _ hl3
          have f1 := ar_fits hA l1 [.agg [I z, I y]] (by simp; omega)
          repeat (cbv; simp only [f0, f1])
          cbv) (Nat.zero_le _) ?_
      try dsimp only [AExit.then, AExit.block]
      repeat refine AWp.seq ?_
      refine AWp.reg1 {} hT (fun A hA => by
          have f0 := ar_add hA y 1 y1 hy1 (by omega) (by omega)
          repeat (cbv; simp only [f0])
          cbv) (Nat.zero_le _) ?_
      try dsimp only [AExit.then, AExit.block]
      refine ⟨(y1, l3), ⟨by dsimp only; omega, by dsimp only; omega, ?_, by rw [← hl3]; simp; omega⟩, by dsimp only; omega, by cbv⟩
      dsimp only
      rw [show y1.toNat = y.toNat + 1 by omega, hSA, List.map_append, ← List.append_assoc, ← gl, ← hl3, show (z.toNat : Int) = z by omega, show (y.toNat : Int) = y by omega]
      rfl
    · repeat refine AWp.seq ?_
      refine AWp.reg1 {} hT (fun A hA => by
          have f0 := ar_nlt hA hy
          repeat (cbv; simp only [f0])
          cbv) (Nat.zero_le _) ?_
      try dsimp only [AExit.then, AExit.block]
      repeat refine AWp.seq ?_
      refine AWp.cond (b := false) rfl (AWp.exit ?_)
      try dsimp only [AExit.then, AExit.block]
      rw [if_pos rfl]
      repeat refine AWp.seq ?_
      refine AWp.reg1 {} hT (fun A hA => by
          have f0 := ar_add hA z 1 z1 hz1 (by omega) (by omega)
          repeat (cbv; simp only [f0])
          cbv) (Nat.zero_le _) ?_
      try dsimp only [AExit.then, AExit.block]
      refine ⟨(z1, l1), ⟨by dsimp only; omega, by dsimp only; omega, ?_, by dsimp only; omega⟩, by dsimp only; omega, by cbv⟩
      dsimp only
      rw [show z1.toNat = z.toNat + 1 by omega, hS, List.map_append, ← hl, List.getD_eq_getElem?_getD, hL, gl, show y.toNat = L.length - 1 by omega]
      rfl
  · repeat refine AWp.seq ?_
    refine AWp.reg1 {} hT (fun A hA => by
        have f0 := ar_nlt hA hz
        repeat (cbv; simp only [f0])
        cbv) (Nat.zero_le _) ?_
    try dsimp only [AExit.then, AExit.block]
    repeat refine AWp.seq ?_
    refine AWp.cond (b := false) rfl (AWp.exit ?_)
    try dsimp only [AExit.then, AExit.block]
    rw [if_pos rfl]
    repeat refine AWp.seq ?_
    refine AWp.reg1 {tk := [3, 29]} hT (fun A hA => by cbv) (Nat.zero_le _) ?_
    try dsimp only [AExit.then, AExit.block]
    repeat refine AWp.seq ?_
    refine AWp.ret ⟨?_, rfl, rfl, Nat.zero_le _, _, rfl⟩
    rw [fencesL, show x.length = z.toNat by omega, ← hl]; rfl
end Go.Am

set_option maxRecDepth 100000
set_option linter.unusedVariables false
set_option linter.unusedSimpArgs false
namespace Go.Am
open Go Go.Proofs
def fenAt (x : List (List Acc)) (l : List Fen) (i : Nat) : Bool := (fencesL x).contains (l.getD i (0, 0)) && (decide (i = 0) || !decide (0 ≤ cmpF (l.getD (i - 1) (0, 0)) (l.getD i (0, 0))))
def fencesB (x : List (List Acc)) (l : List Fen) : Bool := (List.range l.length).all (fenAt x l)
theorem fences_ok (x : List (List Acc)) (l : List Fen) (hx : Small x) (hal : (fencesL x).length ≤ 1000000000) (hl : l.length ≤ 1000000000) :
    ACall P 121 [.d (dX x), .d (.list 2 (l.map dFen))] [] (.tuple (if fencesB x l then [.d (.list 2 (l.map dFen)), AB true] else [.d (.list 2 []), AB false])) [] := by
  have call := fencesL_ok x hx
  have ccn := fun s => contains_fen_ok (fencesL x) s (by omega)
  have ccm := compare_ok
  have hat : ∀ i, fenAt x l i = ((fencesL x).contains (l.getD i (0, 0)) && (decide (i = 0) || !decide (0 ≤ cmpF (l.getD (i - 1) (0, 0)) (l.getD i (0, 0))))) := fun i => rfl
  obtain ⟨F, hF⟩ : ∃ F, fencesB x l = F := ⟨_, rfl⟩
  rw [hF]
  unfold fencesB at hF
  obtain ⟨at_, hat'⟩ : ∃ f, fenAt x l = f := ⟨_, rfl⟩
  rw [hat'] at hat hF
  obtain ⟨all, hall⟩ : ∃ f, fencesL x = f := ⟨_, rfl⟩
  rw [hall] at call hat
  simp only [hall] at ccn
  obtain ⟨AL, hAL⟩ : ∃ f, all.map dFen = f := ⟨_, rfl⟩
  rw [hAL] at call
  simp only [hAL] at ccn
  obtain ⟨X, hX⟩ : ∃ X, dX x = X := ⟨_, rfl⟩
  obtain ⟨L, hL⟩ : ∃ X, l.map dFen = X := ⟨_, rfl⟩
  obtain ⟨n, hn⟩ : ∃ n : Int, (L.length : Int) = n := ⟨_, rfl⟩
  have hln : (l.length : Int) = n := by rw [← hn, ← hL]; simp
  rw [hX] at call ⊢
  rw [hL]
  have hno : ∀ i, i < l.length → at_ i = false → F = false := fun i hi h => by
    rw [← hF, List.all_eq_false]; exact ⟨i, by simpa using hi, by rw [h]; decide⟩
  refine ACall.enter hT (fn := Try.f121) Try.func121 rfl (by decide) (by simp [Try.f121]) rfl rfl (by cases F <;> rfl) rfl (Nat.le_refl _) ?_
  repeat refine AWp.seq ?_
  refine AWp.reg1 {tk := [4]} hT (fun A hA => by cbv) (Nat.zero_le _) ?_
  try dsimp only [AExit.then, AExit.block]
  repeat refine AWp.seq ?_
  refine AWp.region ?_
  refine AOps.stepCall hT (an := {}) (fun A hA => by cbv) (Nat.zero_le _) rfl (.inr rfl) rfl rfl rfl (Nat.le_of_ble_eq_true rfl) rfl rfl (call) ?_
  refine AOps.done hT (an := {}) (fun A hA => by cbv) (Nat.zero_le _) ?_
  try dsimp only [AExit.then, AExit.block]
  repeat refine AWp.seq ?_
  refine AWp.reg1 {tk := [7]} hT (fun A hA => by cbv) (Nat.zero_le _) ?_
  try dsimp only [AExit.then, AExit.block]
  repeat refine AWp.seq ?_
  refine AWp.reg1 {} hT (fun A hA => by
      have f0 := ar_len hA L n hn
      repeat (cbv; simp only [f0])
      cbv) (Nat.zero_le _) ?_
  try dsimp only [AExit.then, AExit.block]
  refine AWp.block (AWp.loopInv (ι := Int × List D) (fun p => 0 ≤ p.1 ∧ p.1 ≤ n ∧ p.2 = L.take p.1.toNat ∧ ∀ i, i < p.1.toNat → at_ i = true) (fun p => (n - p.1).toNat) [1, 6, 7, 12, 13, 14]
    (fun p => { env := [(1, .d (.list 2 L)), (6, .d (.list 2 AL)), (7, .own 2 p.2), (12, .d (.list 2 L)), (13, AI n), (14, AI p.1)], heap := [], n := 43 }) (0, []) (by cbv) ⟨Int.le_refl _, by dsimp only; omega, by simp, by simp⟩ ?_)
  rintro ⟨z, O⟩ ⟨h0, h1, h2, h3⟩
  dsimp only at *
  by_cases hz : z < n
  · obtain ⟨⟨a, b⟩, hs⟩ : ∃ s, l[z.toNat]? = some s := ⟨_, List.getElem?_eq_getElem (by omega)⟩
    have hLz : L[z.toNat]? = some (.agg [I a, I b]) := by rw [← hL, List.getElem?_map, hs]; rfl
    obtain ⟨z1, hz1⟩ : ∃ z1, z + 1 = z1 := ⟨_, rfl⟩
    have hz1n : z1.toNat = z.toNat + 1 := by omega
    have hatz := hat z.toNat
    rw [List.getD_eq_getElem?_getD (i := z.toNat), hs] at hatz
    simp only [Option.getD_some] at hatz
    have c1 := ccn (a, b)
    obtain ⟨r1, hr1⟩ : ∃ r, all.contains (a, b) = r := ⟨_, rfl⟩
    rw [hr1] at c1 hatz
    unfold dFen at c1
    dsimp only at c1
    have hno' := hno z.toNat (by omega)
    have hOl : O.length ≤ 1000000000 := by rw [h2]; simp; omega
    obtain ⟨O1, hO1⟩ : ∃ l3, O ++ [.agg [I a, I b]] = l3 := ⟨_, rfl⟩
    have hO1' : O1 = L.take z1.toNat := by rw [← hO1, h2, hz1n, List.take_add_one, hLz]; rfl
    repeat refine AWp.seq ?_
    refine AWp.reg1 {} hT (fun A hA => by
        have f0 := ar_lt hA hz
        repeat (cbv; simp only [f0])
        cbv) (Nat.zero_le _) ?_
    try dsimp only [AExit.then, AExit.block]
    repeat refine AWp.seq ?_
    refine AWp.cond (b := true) rfl (AWp.skip ?_)
    try dsimp only [AExit.then, AExit.block]
    repeat refine AWp.seq ?_
    refine AWp.block ?_
    repeat refine AWp.seq ?_
    refine AWp.reg1 {} hT (fun A hA => by
        have f0 := ar_get hA hLz
        have f1 := ar_le hA h0
        repeat (cbv; simp only [f0, f1])
        cbv) (Nat.zero_le _) ?_
    try dsimp only [AExit.then, AExit.block]
    refine AWp.freezeBox 9 [I a, I b] rfl rfl ?_
    refine AWp.cut (fun σ' => at_ z.toNat = true ∧ σ'.keep [1, 6, 7, 9, 12, 13, 14] = { env := [(1, .d (.list 2 L)), (6, .d (.list 2 AL)), (7, .own 2 O), (9, .iptr [I a, I b]), (12, .d (.list 2 L)), (13, AI n), (14, AI z)], heap := [], n := 43 }) ?_ ?_
    · by_cases hz0 : 0 < z
      · obtain ⟨⟨a', b'⟩, hs'⟩ : ∃ s, l[(z - 1).toNat]? = some s := ⟨_, List.getElem?_eq_getElem (by omega)⟩
        obtain ⟨y, hy⟩ : ∃ y, z - 1 = y := ⟨_, rfl⟩
        have hLy : L[y.toNat]? = some (.agg [I a', I b']) := by rw [← hL, List.getElem?_map, ← hy, hs']; rfl
        rw [show z.toNat - 1 = (z - 1).toNat by omega, List.getD_eq_getElem?_getD, hs'] at hatz
        simp only [Option.getD_some] at hatz
        have c2 := ccm a' b' a b
        obtain ⟨q, hq⟩ : ∃ r, cmpF (a', b') (a, b) = r := ⟨_, rfl⟩
        rw [hq] at c2
        simp only [Option.getD_some, hq] at hatz
        obtain ⟨r2, hr2⟩ : ∃ r, decide (0 ≤ q) = r := ⟨_, rfl⟩
        have hle : ∀ A : Ar, A = Ar.std → A.zle 0 q = r2 := fun A hA => by subst hA; exact hr2
        rw [hr2, show decide (z.toNat = 0) = false by simp; omega] at hatz
        repeat refine AWp.seq ?_
        refine AWp.regionDraw rfl (Nat.zero_le _) ?_
        refine DOps.stepCall hT (an := {}) rfl (fun A hA => by cbv) rfl rfl (Nat.le_of_ble_eq_true rfl) rfl rfl (c1) ?_
        cases r1 with
        | false =>
          refine DOps.done hT (an := {}) rfl (fun A hA => by
              have f0 := ar_lt hA hz0
              repeat (cbv; simp only [f0])
              cbv) (by kernel_rfl) ?_
          try dsimp only [AExit.then, AExit.block]
          repeat refine AWp.seq ?_
          refine AWp.cond (b := true) rfl ?_
          rw [if_pos rfl]
          repeat refine AWp.seq ?_
          refine AWp.reg1 {} hT (fun A hA => by cbv) (Nat.zero_le _) ?_
          try dsimp only [AExit.then, AExit.block]
          obtain rfl := hno' (by rw [hatz]; rfl)
          repeat refine AWp.seq ?_
          refine AWp.ret ⟨?_, rfl, rfl, Nat.zero_le _, _, rfl⟩
          rfl
        | true =>
          refine DOps.stepCall hT (an := {}) rfl (fun A hA => by
              have f0 := ar_lt hA hz0
              have f1 := ar_sub hA z 1 y hy (by omega) (by omega)
              have f2 := ar_get hA hLy
              have f3 := ar_le hA (show 0 ≤ y by omega)
              repeat (cbv; simp only [f0, f1, f2, f3])
              cbv) rfl rfl (Nat.le_of_ble_eq_true rfl) rfl rfl (c2) ?_
          refine DOps.done hT (an := {}) rfl (fun A hA => by
              have f0 := hle A hA
              repeat (cbv; simp only [f0])
              cbv) (by kernel_rfl) ?_
          try dsimp only [AExit.then, AExit.block]
          cases r2 with
          | true =>
            repeat refine AWp.seq ?_
            refine AWp.cond (b := true) rfl ?_
            rw [if_pos rfl]
            repeat refine AWp.seq ?_
            refine AWp.reg1 {} hT (fun A hA => by cbv) (Nat.zero_le _) ?_
            try dsimp only [AExit.then, AExit.block]
            obtain rfl := hno' (by rw [hatz]; rfl)
            repeat refine AWp.seq ?_
            refine AWp.ret ⟨?_, rfl, rfl, Nat.zero_le _, _, rfl⟩
            rfl
          | false =>
            repeat refine AWp.seq ?_
            refine AWp.cond (b := false) rfl (AWp.skip ?_)
            try dsimp only [AExit.then, AExit.block]
            exact ⟨by rw [hatz]; rfl, by cbv⟩
      · rw [show decide (z.toNat = 0) = true by simp; omega] at hatz
        repeat refine AWp.seq ?_
        refine AWp.regionDraw rfl (Nat.zero_le _) ?_
        refine DOps.stepCall hT (an := {}) rfl (fun A hA => by cbv) rfl rfl (Nat.le_of_ble_eq_true rfl) rfl rfl (c1) ?_
        cases r1 with
        | false =>
          refine DOps.done hT (an := {}) rfl (fun A hA => by
              have f0 := ar_nlt hA hz0
              repeat (cbv; simp only [f0])
              cbv) (by kernel_rfl) ?_
          try dsimp only [AExit.then, AExit.block]
          repeat refine AWp.seq ?_
          refine AWp.cond (b := true) rfl ?_
          rw [if_pos rfl]
          repeat refine AWp.seq ?_
          refine AWp.reg1 {} hT (fun A hA => by cbv) (Nat.zero_le _) ?_
          try dsimp only [AExit.then, AExit.block]
          obtain rfl := hno' (by rw [hatz]; rfl)
          repeat refine AWp.seq ?_
          refine AWp.ret ⟨?_, rfl, rfl, Nat.zero_le _, _, rfl⟩
          rfl
        | true =>
          refine DOps.done hT (an := {}) rfl (fun A hA => by
              have f0 := ar_nlt hA hz0
              repeat (cbv; simp only [f0])
              cbv) (by kernel_rfl) ?_
          try dsimp only [AExit.then, AExit.block]
          repeat refine AWp.seq ?_
          refine AWp.cond (b := false) rfl (AWp.skip ?_)
          try dsimp only [AExit.then, AExit.block]
          exact ⟨by rw [hatz]; rfl, by cbv⟩
    · rintro σ1 ⟨hatt, hσ1⟩
      refine AWp.keep [1, 6, 7, 9, 12, 13, 14] ?_
      rw [hσ1]
      repeat refine AWp.seq ?_
      refine AWp.reg1 {tk := [7, 37, 40]} hT (fun A hA => by
          have f0 := ar_app hA _ _ _ hO1
          have f1 := ar_fits hA O [.agg [I a, I b]] (by simp; omega)
          repeat (cbv; simp only [f0, f1])
          cbv) (Nat.zero_le _) ?_
      try dsimp only [AExit.then, AExit.block]
      repeat refine AWp.seq ?_
      refine AWp.reg1 {} hT (fun A hA => by
          have f0 := ar_add hA z 1 z1 hz1 (by omega) (by omega)
          repeat (cbv; simp only [f0])
          cbv) (Nat.zero_le _) ?_
      try dsimp only [AExit.then, AExit.block]
      refine ⟨(z1, O1), ⟨by dsimp only; omega, by dsimp only; omega, hO1', fun i hi => ?_⟩, by dsimp only; omega, by cbv⟩
      dsimp only at hi
      rcases Nat.lt_or_ge i z.toNat with h | h
      · exact h3 i h
      · rw [show i = z.toNat by omega, hatt]
  · have hFt : F = true := by
      rw [← hF, List.all_eq_true]
      exact fun i hi => h3 i (by have := List.mem_range.1 hi; omega)
    subst hFt
    rw [List.take_of_length_le (by omega)] at h2
    subst h2
    repeat refine AWp.seq ?_
    refine AWp.reg1 {} hT (fun A hA => by
        have f0 := ar_nlt hA hz
        repeat (cbv; simp only [f0])
        cbv) (Nat.zero_le _) ?_
    try dsimp only [AExit.then, AExit.block]
    repeat refine AWp.seq ?_
    refine AWp.cond (b := false) rfl (AWp.exit ?_)
    try dsimp only [AExit.then, AExit.block]
    rw [if_pos rfl]
    repeat refine AWp.seq ?_
    refine AWp.reg1 {tk := [7, 42]} hT (fun A hA => by cbv) (Nat.zero_le _) ?_
    try dsimp only [AExit.then, AExit.block]
    repeat refine AWp.seq ?_
    refine AWp.ret ⟨?_, rfl, rfl, Nat.zero_le _, _, rfl⟩
    rfl
end Go.Am

set_option maxRecDepth 100000
set_option linter.unusedVariables false
set_option linter.unusedSimpArgs false
namespace Go.Am
open Go Go.Proofs
end Go.Am

set_option maxRecDepth 100000
set_option linter.unusedVariables false
set_option linter.unusedSimpArgs false
namespace Go.Am
open Go Go.Proofs
end Go.Am

set_option maxRecDepth 100000
set_option linter.unusedVariables false
set_option linter.unusedSimpArgs false
namespace Go.Am
open Go Go.Proofs
def fencedT (x : List (List Acc)) (l : List Fen) : List Fen × Int := if valid x then (if fencesB x l then (l, 0) else ([], 2)) else ([], 90)
theorem fencesL_48 {x : List (List Acc)} (h : valid x = true) : (fencesL x).length ≤ 12 := by
  obtain ⟨_, h3, h4⟩ := valid_sizes h
  have hrow : ∀ t, (fenRow t ((x.getD t []).length - 1)).length ≤ 4 := fun t => by
    unfold fenRow
    rw [List.length_map, List.length_range]
    rw [List.getD_eq_getElem?_getD]
    cases hx : x[t]? with
    | none => simp
    | some r => have := (h4 r (List.mem_of_getElem? hx)).1; simp; omega
  have : ∀ n, (fenT x n).length ≤ 4 * n := by
    intro n
    induction n with
    | zero => simp [fenT]
    | succ n ih =>
      have e : fenT x (n + 1) = fenT x n ++ fenRow n ((x.getD n []).length - 1) := flatMap_range_succ _ _
      rw [e, List.length_append]
      have := hrow n
      omega
  have := this x.length
  unfold fencesL
  omega
theorem fenced_ok (x : List (List Acc)) (l : List Fen) (hx : Big x) (hl : l.length ≤ 1000000000) :
    ACall P 85 [.d (dX x), .d (.list 2 (l.map dFen))] [] (.tuple [.d (.list 2 ((fencedT x l).1.map dFen)), AI (fencedT x l).2]) [] := by
  have cv := valid_ok x hx
  unfold fencedT
  cases hv : valid x with
  | false =>
    rw [hv] at cv
    simp only [Bool.false_eq_true, if_false, List.map_nil]
    obtain ⟨X, hX⟩ : ∃ X, dX x = X := ⟨_, rfl⟩
    obtain ⟨L, hL⟩ : ∃ X, l.map dFen = X := ⟨_, rfl⟩
    rw [hX] at cv ⊢
    rw [hL]
    refine ACall.enter hT (fn := Try.f85) Try.func85 rfl (by decide) (by simp [Try.f85]) rfl rfl rfl rfl (Nat.le_refl _) ?_
    repeat refine AWp.seq ?_
    refine AWp.reg1 {} hT (fun A hA => by cbv) (Nat.zero_le _) ?_
    try dsimp only [AExit.then, AExit.block]
    repeat refine AWp.seq ?_
    refine AWp.region ?_
    refine AOps.stepCall hT (an := {}) (fun A hA => by cbv) (Nat.zero_le _) rfl (.inr rfl) rfl rfl rfl (Nat.le_of_ble_eq_true rfl) rfl rfl (cv) ?_
    refine AOps.done hT (an := {}) (fun A hA => by cbv) (Nat.zero_le _) ?_
    try dsimp only [AExit.then, AExit.block]
    repeat refine AWp.seq ?_
    refine AWp.cond (b := true) rfl ?_
    rw [if_pos rfl]
    repeat refine AWp.seq ?_
    refine AWp.reg1 {} hT (fun A hA => by cbv) (Nat.zero_le _) ?_
    try dsimp only [AExit.then, AExit.block]
    repeat refine AWp.seq ?_
    refine AWp.ret ⟨?_, rfl, rfl, Nat.zero_le _, _, rfl⟩
    rfl
  | true =>
    have hs := valid_small hv
    have h12 := fencesL_48 hv
    rw [hv] at cv
    have cf := fences_ok x l hs (by omega) hl
    simp only [if_true]
    cases hF : fencesB x l with
    | false =>
      rw [hF] at cf
      simp only [Bool.false_eq_true, if_false, List.map_nil] at cf ⊢
      obtain ⟨X, hX⟩ : ∃ X, dX x = X := ⟨_, rfl⟩
      obtain ⟨L, hL⟩ : ∃ X, l.map dFen = X := ⟨_, rfl⟩
      rw [hX] at cv cf ⊢
      rw [hL] at cf ⊢
      refine ACall.enter hT (fn := Try.f85) Try.func85 rfl (by decide) (by simp [Try.f85]) rfl rfl rfl rfl (Nat.le_refl _) ?_
      repeat refine AWp.seq ?_
      refine AWp.reg1 {} hT (fun A hA => by cbv) (Nat.zero_le _) ?_
      try dsimp only [AExit.then, AExit.block]
      repeat refine AWp.seq ?_
      refine AWp.region ?_
      refine AOps.stepCall hT (an := {}) (fun A hA => by cbv) (Nat.zero_le _) rfl (.inr rfl) rfl rfl rfl (Nat.le_of_ble_eq_true rfl) rfl rfl (cv) ?_
      refine AOps.done hT (an := {}) (fun A hA => by cbv) (Nat.zero_le _) ?_
      try dsimp only [AExit.then, AExit.block]
      repeat refine AWp.seq ?_
      refine AWp.cond (b := false) rfl (AWp.skip ?_)
      try dsimp only [AExit.then, AExit.block]
      repeat refine AWp.seq ?_
      refine AWp.region ?_
      refine AOps.stepCall hT (an := {}) (fun A hA => by cbv) (Nat.zero_le _) rfl (.inr rfl) rfl rfl rfl (Nat.le_of_ble_eq_true rfl) rfl rfl (cf) ?_
      refine AOps.done hT (an := {}) (fun A hA => by cbv) (Nat.zero_le _) ?_
      try dsimp only [AExit.then, AExit.block]
      repeat refine AWp.seq ?_
      refine AWp.reg1 {} hT (fun A hA => by cbv) (Nat.zero_le _) ?_
      try dsimp only [AExit.then, AExit.block]
      repeat refine AWp.seq ?_
      refine AWp.cond (b := true) rfl ?_
      rw [if_pos rfl]
      repeat refine AWp.seq ?_
      refine AWp.reg1 {} hT (fun A hA => by cbv) (Nat.zero_le _) ?_
      try dsimp only [AExit.then, AExit.block]
      repeat refine AWp.seq ?_
      refine AWp.ret ⟨?_, rfl, rfl, Nat.zero_le _, _, rfl⟩
      rfl
    | true =>
      rw [hF] at cf
      simp only [if_true] at cf ⊢
      obtain ⟨X, hX⟩ : ∃ X, dX x = X := ⟨_, rfl⟩
      obtain ⟨L, hL⟩ : ∃ X, l.map dFen = X := ⟨_, rfl⟩
      rw [hX] at cv cf ⊢
      rw [hL] at cf ⊢
      refine ACall.enter hT (fn := Try.f85) Try.func85 rfl (by decide) (by simp [Try.f85]) rfl rfl rfl rfl (Nat.le_refl _) ?_
      repeat refine AWp.seq ?_
      refine AWp.reg1 {} hT (fun A hA => by cbv) (Nat.zero_le _) ?_
      try dsimp only [AExit.then, AExit.block]
      repeat refine AWp.seq ?_
      refine AWp.region ?_
      refine AOps.stepCall hT (an := {}) (fun A hA => by cbv) (Nat.zero_le _) rfl (.inr rfl) rfl rfl rfl (Nat.le_of_ble_eq_true rfl) rfl rfl (cv) ?_
      refine AOps.done hT (an := {}) (fun A hA => by cbv) (Nat.zero_le _) ?_
      try dsimp only [AExit.then, AExit.block]
      repeat refine AWp.seq ?_
      refine AWp.cond (b := false) rfl (AWp.skip ?_)
      try dsimp only [AExit.then, AExit.block]
      repeat refine AWp.seq ?_
      refine AWp.region ?_
      refine AOps.stepCall hT (an := {}) (fun A hA => by cbv) (Nat.zero_le _) rfl (.inr rfl) rfl rfl rfl (Nat.le_of_ble_eq_true rfl) rfl rfl (cf) ?_
      refine AOps.done hT (an := {}) (fun A hA => by cbv) (Nat.zero_le _) ?_
      try dsimp only [AExit.then, AExit.block]
      repeat refine AWp.seq ?_
      refine AWp.reg1 {} hT (fun A hA => by cbv) (Nat.zero_le _) ?_
      try dsimp only [AExit.then, AExit.block]
      repeat refine AWp.seq ?_
      refine AWp.cond (b := false) rfl (AWp.skip ?_)
      try dsimp only [AExit.then, AExit.block]
      repeat refine AWp.seq ?_
      refine AWp.reg1 {} hT (fun A hA => by cbv) (Nat.zero_le _) ?_
      try dsimp only [AExit.then, AExit.block]
      repeat refine AWp.seq ?_
      refine AWp.ret ⟨?_, rfl, rfl, Nat.zero_le _, _, rfl⟩
      rfl
def holdsF (f : Fen) (s : Sta) : Bool := decide (f.1 = s.1) && decide (s.2.1 ≤ f.2) && decide (f.2 < s.2.2)
def heldF (l : List Fen) (s : Sta) : Bool := l.any fun f => holdsF f s
def enoughF (l : List Fen) (p : List Sta) : Bool := p.all (heldF l)
end Go.Am

set_option maxRecDepth 100000
set_option linter.unusedVariables false
set_option linter.unusedSimpArgs false
namespace Go.Am
open Go Go.Proofs
end Go.Am

set_option maxRecDepth 100000
set_option linter.unusedVariables false
set_option linter.unusedSimpArgs false
namespace Go.Am
open Go Go.Proofs
def dRow (l : List Int) : D := .list 1 (l.map I)
def in19 (n : Int) : Bool := decide (1 ≤ n) && decide (n ≤ 9)
def prAt (x : List (List Acc)) (c : List (List Int)) (t : Nat) : Bool :=
  decide (t < x.length) && decide ((c.getD t []).length = (x.getD t []).length - 1) && (c.getD t []).all in19
def pricedB (x : List (List Acc)) (c : List (List Int)) : Bool := (List.range c.length).all (prAt x c) && decide (c.length = x.length)
end Go.Am

set_option maxRecDepth 100000
set_option linter.unusedVariables false
set_option linter.unusedSimpArgs false
namespace Go.Am
open Go Go.Proofs
end Go.Am

set_option maxRecDepth 100000
set_option linter.unusedVariables false
set_option linter.unusedSimpArgs false
namespace Go.Am
open Go Go.Proofs
end Go.Am

set_option maxRecDepth 100000
set_option linter.unusedVariables false
set_option linter.unusedSimpArgs false
namespace Go.Am
open Go Go.Proofs
end Go.Am

set_option maxRecDepth 100000
set_option linter.unusedVariables false
set_option linter.unusedSimpArgs false
namespace Go.Am
open Go Go.Proofs
end Go.Am

set_option maxRecDepth 100000
set_option linter.unusedVariables false
set_option linter.unusedSimpArgs false
namespace Go.Am
open Go Go.Proofs
end Go.Am

set_option maxRecDepth 100000
set_option linter.unusedVariables false
set_option linter.unusedSimpArgs false
namespace Go.Am
open Go Go.Proofs
end Go.Am

set_option maxRecDepth 100000
set_option linter.unusedVariables false
set_option linter.unusedSimpArgs false
namespace Go.Am
open Go Go.Proofs
theorem mem_fencesL {x : List (List Acc)} {f : Fen} : f ∈ fencesL x ↔ 0 ≤ f.1 ∧ f.1 < (x.length : Int) ∧ 0 ≤ f.2 ∧ f.2 < rl x f.1 - 1 := by
  unfold fencesL fenT fenRow rl
  simp only [List.mem_flatMap, List.mem_range, List.mem_map]
  constructor
  · rintro ⟨t, ht, g, hg, rfl⟩
    refine ⟨by simp, by simp; omega, by simp, ?_⟩
    simp only [Int.toNat_natCast]
    omega
  · obtain ⟨t, g⟩ := f
    rintro ⟨h1, h2, h3, h4⟩
    dsimp only at *
    exact ⟨t.toNat, by omega, g.toNat, by omega, by simp; omega⟩
def fenBody (x : List (List Acc)) (f p : Fen) (first : Bool) : Bool := there x f.1 f.2 && !decide (f.2 = rl x f.1 - 1) && (first || !(decide (f.1 < p.1) || (decide (f.1 = p.1) && decide (f.2 ≤ p.2))))
def fenRAt (x : List (List Acc)) (l : List Fen) (i : Nat) : Bool := fenBody x (l.getD i (0, 0)) (l.getD (i - 1) (0, 0)) (decide (i = 0))
theorem fenRAt_eq (x : List (List Acc)) (l : List Fen) (i : Nat) : fenRAt x l i = fenAt x l i := by
  unfold fenRAt fenAt
  obtain ⟨⟨t, g⟩, hf⟩ : ∃ f, l.getD i (0, 0) = f := ⟨_, rfl⟩
  obtain ⟨⟨u, h⟩, hp⟩ : ∃ f, l.getD (i - 1) (0, 0) = f := ⟨_, rfl⟩
  simp only [hf, hp]
  unfold fenBody
  dsimp only
  congr 1
  · rw [Bool.eq_iff_iff]
    simp only [Bool.and_eq_true, Bool.not_eq_true', decide_eq_false_iff_not, List.contains_eq_mem, decide_eq_true_eq]
    rw [there_iff, mem_fencesL]
    simp only
    omega
  · congr 2
    rw [Bool.eq_iff_iff]
    unfold cmpF cmpI
    simp only [Bool.or_eq_true, Bool.and_eq_true, decide_eq_true_eq]
    by_cases h1 : u < t
    · simp [h1]; omega
    · by_cases h2 : t < u
      · simp [h1, h2]
      · obtain rfl : t = u := by omega
        simp
        split
        · omega
        · split <;> omega
theorem areFences_ok (x : List (List Acc)) (l : List Fen) (hx : Small x) (hl : l.length ≤ 1000000000) : ACall P 125 [.d (dX x), .d (.list 2 (l.map dFen))] [] (AB (fencesB x l)) [] := by
  have cacc := fun t a => isAccess_ok x t a hx
  have hth := fun (t a : Int) (h : there x t a = true) => there_at h
  have hrl : ∀ (t a : Int) L', there x t a = true → (x.map dAccs)[t.toNat]? = some (.list 2 L') → (L'.length : Int) = rl x t ∧ rl x t ≤ 1000 ∧ 1 ≤ rl x t := by
    intro t a L' h h2
    obtain ⟨k1, k2, k3, k4⟩ := (there_iff x t a).1 h
    rw [List.getElem?_map, List.getElem?_eq_getElem (by omega)] at h2
    simp only [Option.map_some, Option.some.injEq] at h2
    unfold dAccs at h2
    injection h2 with _ h2
    have hs := hx.2 x[t.toNat] (List.getElem_mem _)
    have e : rl x t = (x[t.toNat].length : Int) := by unfold rl; rw [List.getD_eq_getElem?_getD, List.getElem?_eq_getElem (by omega)]; rfl
    refine ⟨by rw [← h2, e]; simp, by omega, by omega⟩
  have hat : ∀ i, fenAt x l i = fenBody x (l.getD i (0, 0)) (l.getD (i - 1) (0, 0)) (decide (i = 0)) := fun i => (fenRAt_eq x l i).symm
  have hbody : ∀ t g u h b, fenBody x (t, g) (u, h) b = (there x t g && !decide (g = rl x t - 1) && (b || !(decide (t < u) || (decide (t = u) && decide (g ≤ h))))) := fun _ _ _ _ _ => rfl
  obtain ⟨F, hF⟩ : ∃ F, fencesB x l = F := ⟨_, rfl⟩
  rw [hF]
  unfold fencesB at hF
  obtain ⟨at_, hat'⟩ : ∃ f, fenAt x l = f := ⟨_, rfl⟩
  rw [hat'] at hat hF
  unfold dX at *
  obtain ⟨X, hX⟩ : ∃ X, x.map dAccs = X := ⟨_, rfl⟩
  obtain ⟨L, hL⟩ : ∃ X, l.map dFen = X := ⟨_, rfl⟩
  obtain ⟨n, hn⟩ : ∃ n : Int, (L.length : Int) = n := ⟨_, rfl⟩
  have hln : (l.length : Int) = n := by rw [← hn, ← hL]; simp
  simp only [hX] at cacc hth hrl
  rw [hX, hL]
  have hno : ∀ i, i < l.length → at_ i = false → F = false := fun i hi h => by
    rw [← hF, List.all_eq_false]; exact ⟨i, by simpa using hi, by rw [h]; decide⟩
  refine ACall.enter hT (fn := Try.f125) Try.func125 rfl (by decide) (by simp [Try.f125]) rfl rfl rfl rfl (Nat.le_refl _) ?_
  repeat refine AWp.seq ?_
  refine AWp.reg1 {} hT (fun A hA => by cbv) (Nat.zero_le _) ?_
  try dsimp only [AExit.then, AExit.block]
  repeat refine AWp.seq ?_
  refine AWp.reg1 {} hT (fun A hA => by
      have f0 := ar_len hA L n hn
      repeat (cbv; simp only [f0])
      cbv) (Nat.zero_le _) ?_
  try dsimp only [AExit.then, AExit.block]
  refine AWp.block (AWp.loopInv (ι := Int) (fun z => 0 ≤ z ∧ z ≤ n ∧ ∀ i, i < z.toNat → at_ i = true) (fun z => (n - z).toNat) [0, 1, 7, 8, 9]
    (fun z => { env := [(0, .d (.list 1 X)), (1, .d (.list 2 L)), (7, .d (.list 2 L)), (8, AI n), (9, AI z)], heap := [], n := 69 }) 0 (by cbv) ⟨Int.le_refl _, by omega, by simp⟩ ?_)
  rintro z ⟨h0, h1, h3⟩
  by_cases hz : z < n
  · obtain ⟨⟨t, g⟩, hs⟩ : ∃ s, l[z.toNat]? = some s := ⟨_, List.getElem?_eq_getElem (by omega)⟩
    have hLz : L[z.toNat]? = some (.agg [I t, I g]) := by rw [← hL, List.getElem?_map, hs]; rfl
    obtain ⟨z1, hz1⟩ : ∃ z1, z + 1 = z1 := ⟨_, rfl⟩
    have hz1n : z1.toNat = z.toNat + 1 := by omega
    have hatz := hat z.toNat
    obtain ⟨⟨u, h⟩, hprev⟩ : ∃ p, l.getD (z.toNat - 1) (0, 0) = p := ⟨_, rfl⟩
    rw [List.getD_eq_getElem?_getD (i := z.toNat), hs, hprev, Option.getD_some, hbody] at hatz
    have c1 := cacc t g
    have hno' := hno z.toNat (by omega)
    repeat refine AWp.seq ?_
    refine AWp.reg1 {} hT (fun A hA => by
        have f0 := ar_lt hA hz
        repeat (cbv; simp only [f0])
        cbv) (Nat.zero_le _) ?_
    try dsimp only [AExit.then, AExit.block]
    repeat refine AWp.seq ?_
    refine AWp.cond (b := true) rfl (AWp.skip ?_)
    try dsimp only [AExit.then, AExit.block]
    repeat refine AWp.seq ?_
    refine AWp.block ?_
    repeat refine AWp.seq ?_
    refine AWp.reg1 {} hT (fun A hA => by
        have f0 := ar_get hA hLz
        have f1 := ar_le hA h0
        repeat (cbv; simp only [f0, f1])
        cbv) (Nat.zero_le _) ?_
    try dsimp only [AExit.then, AExit.block]
    cases hr1 : there x t g with
    | false =>
      rw [hr1] at c1 hatz
      repeat refine AWp.seq ?_
      refine AWp.regionDraw rfl (Nat.zero_le _) ?_
      refine DOps.stepCall hT (an := {}) rfl (fun A hA => by cbv) rfl rfl (Nat.le_of_ble_eq_true rfl) rfl rfl (c1) ?_
      refine DOps.done hT (an := {}) rfl (fun A hA => by cbv) (by kernel_rfl) ?_
      try dsimp only [AExit.then, AExit.block]
      repeat refine AWp.seq ?_
      refine AWp.cond (b := true) rfl ?_
      rw [if_pos rfl]
      repeat refine AWp.seq ?_
      refine AWp.reg1 {} hT (fun A hA => by cbv) (Nat.zero_le _) ?_
      try dsimp only [AExit.then, AExit.block]
      obtain rfl := hno' (by rw [hatz]; rfl)
      repeat refine AWp.seq ?_
      refine AWp.ret ⟨?_, rfl, rfl, Nat.zero_le _, _, rfl⟩
      rfl
    | true =>
      obtain ⟨q0, q1, L', q2, _⟩ := hth t g hr1
      obtain ⟨w1, w2, w3⟩ := hrl t g L' hr1 q2
      rw [hr1] at c1 hatz
      obtain ⟨k, hk⟩ : ∃ k, rl x t = k := ⟨_, rfl⟩
      rw [hk] at w1 w2 w3 hatz
      obtain ⟨k1, hk1⟩ : ∃ q, k - 1 = q := ⟨_, rfl⟩
      rw [hk1] at hatz
      by_cases eg : g = k1
      · rw [decide_eq_true eg] at hatz
        repeat refine AWp.seq ?_
        refine AWp.regionDraw rfl (Nat.zero_le _) ?_
        refine DOps.stepCall hT (an := {}) rfl (fun A hA => by cbv) rfl rfl (Nat.le_of_ble_eq_true rfl) rfl rfl (c1) ?_
        refine DOps.done hT (an := {}) rfl (fun A hA => by
            have f0 := ar_get hA q2
            have f1 := ar_le hA q0
            have f2 := ar_len hA L' k w1
            have f3 := ar_sub hA k 1 k1 hk1 (by omega) (by omega)
            have f4 := ar_eq hA eg
            repeat (cbv; simp only [f0, f1, f2, f3, f4])
            cbv) (by kernel_rfl) ?_
        try dsimp only [AExit.then, AExit.block]
        repeat refine AWp.seq ?_
        refine AWp.cond (b := true) rfl ?_
        rw [if_pos rfl]
        repeat refine AWp.seq ?_
        refine AWp.reg1 {} hT (fun A hA => by cbv) (Nat.zero_le _) ?_
        try dsimp only [AExit.then, AExit.block]
        obtain rfl := hno' (by rw [hatz]; rfl)
        repeat refine AWp.seq ?_
        refine AWp.ret ⟨?_, rfl, rfl, Nat.zero_le _, _, rfl⟩
        rfl
      · rw [decide_eq_false eg] at hatz
        repeat refine AWp.seq ?_
        refine AWp.regionDraw rfl (Nat.zero_le _) ?_
        refine DOps.stepCall hT (an := {}) rfl (fun A hA => by cbv) rfl rfl (Nat.le_of_ble_eq_true rfl) rfl rfl (c1) ?_
        refine DOps.done hT (an := {}) rfl (fun A hA => by
            have f0 := ar_get hA q2
            have f1 := ar_le hA q0
            have f2 := ar_len hA L' k w1
            have f3 := ar_sub hA k 1 k1 hk1 (by omega) (by omega)
            have f4 := ar_ne hA eg
            repeat (cbv; simp only [f0, f1, f2, f3, f4])
            cbv) (by kernel_rfl) ?_
        try dsimp only [AExit.then, AExit.block]
        repeat refine AWp.seq ?_
        refine AWp.cond (b := false) rfl (AWp.skip ?_)
        try dsimp only [AExit.then, AExit.block]
        have hnextok : at_ z.toNat = true → ∀ i, i < z1.toNat → at_ i = true := fun hatt i hi => by
          rcases Nat.lt_or_ge i z.toNat with h | h
          · exact h3 i h
          · rw [show i = z.toNat by omega, hatt]
        by_cases hz0 : 0 < z
        · have hs' : l[(z - 1).toNat]? = some (u, h) := by
            rw [List.getD_eq_getElem?_getD, show z.toNat - 1 = (z - 1).toNat by omega, List.getElem?_eq_getElem (by omega)] at hprev
            rw [List.getElem?_eq_getElem (by omega), ← hprev]; rfl
          obtain ⟨y, hy⟩ : ∃ y, z - 1 = y := ⟨_, rfl⟩
          have hLy : L[y.toNat]? = some (.agg [I u, I h]) := by rw [← hL, List.getElem?_map, ← hy, hs']; rfl
          rw [show decide (z.toNat = 0) = false by simp; omega, Bool.false_or] at hatz
          by_cases e1 : t < u
          · rw [decide_eq_true e1] at hatz
            repeat refine AWp.seq ?_
            refine AWp.reg1D {} hT rfl (fun A hA => by
                have f0 := ar_lt hA hz0
                have f1 := ar_sub hA z 1 y hy (by omega) (by omega)
                have f2 := ar_get hA hLy
                have f3 := ar_le hA (show 0 ≤ y by omega)
                have f4 := ar_lt hA e1
                repeat (cbv; simp only [f0, f1, f2, f3, f4])
                cbv) (by kernel_rfl) (Nat.zero_le _) ?_
            try dsimp only [AExit.then, AExit.block]
            repeat refine AWp.seq ?_
            refine AWp.cond (b := true) rfl ?_
            rw [if_pos rfl]
            repeat refine AWp.seq ?_
            refine AWp.reg1 {} hT (fun A hA => by cbv) (Nat.zero_le _) ?_
            try dsimp only [AExit.then, AExit.block]
            obtain rfl := hno' (by rw [hatz]; rfl)
            repeat refine AWp.seq ?_
            refine AWp.ret ⟨?_, rfl, rfl, Nat.zero_le _, _, rfl⟩
            rfl
          · rw [decide_eq_false e1] at hatz
            by_cases e2 : t = u
            · rw [decide_eq_true e2] at hatz
              by_cases e3 : g ≤ h
              · rw [decide_eq_true e3] at hatz
                repeat refine AWp.seq ?_
                refine AWp.reg1D {} hT rfl (fun A hA => by
                    have f0 := ar_lt hA hz0
                    have f1 := ar_sub hA z 1 y hy (by omega) (by omega)
                    have f2 := ar_get hA hLy
                    have f3 := ar_le hA (show 0 ≤ y by omega)
                    have f4 := ar_nlt hA e1
                    have f5 := ar_eq hA e2
                    have f6 := ar_le hA e3
                    repeat (cbv; simp only [f0, f1, f2, f3, f4, f5, f6])
                    cbv) (by kernel_rfl) (Nat.zero_le _) ?_
                try dsimp only [AExit.then, AExit.block]
                repeat refine AWp.seq ?_
                refine AWp.cond (b := true) rfl ?_
                rw [if_pos rfl]
                repeat refine AWp.seq ?_
                refine AWp.reg1 {} hT (fun A hA => by cbv) (Nat.zero_le _) ?_
                try dsimp only [AExit.then, AExit.block]
                obtain rfl := hno' (by rw [hatz]; rfl)
                repeat refine AWp.seq ?_
                refine AWp.ret ⟨?_, rfl, rfl, Nat.zero_le _, _, rfl⟩
                rfl
              · rw [decide_eq_false e3] at hatz
                repeat refine AWp.seq ?_
                refine AWp.reg1D {} hT rfl (fun A hA => by
                    have f0 := ar_lt hA hz0
                    have f1 := ar_sub hA z 1 y hy (by omega) (by omega)
                    have f2 := ar_get hA hLy
                    have f3 := ar_le hA (show 0 ≤ y by omega)
                    have f4 := ar_nlt hA e1
                    have f5 := ar_eq hA e2
                    have f6 := ar_nle hA e3
                    repeat (cbv; simp only [f0, f1, f2, f3, f4, f5, f6])
                    cbv) (by kernel_rfl) (Nat.zero_le _) ?_
                try dsimp only [AExit.then, AExit.block]
                repeat refine AWp.seq ?_
                refine AWp.cond (b := false) rfl (AWp.skip ?_)
                try dsimp only [AExit.then, AExit.block]
                repeat refine AWp.seq ?_
                refine AWp.reg1 {} hT (fun A hA => by
                    have f0 := ar_add hA z 1 z1 hz1 (by omega) (by omega)
                    repeat (cbv; simp only [f0])
                    cbv) (Nat.zero_le _) ?_
                try dsimp only [AExit.then, AExit.block]
                exact ⟨z1, ⟨by omega, by omega, hnextok (by rw [hatz]; rfl)⟩, by omega, by cbv⟩
            · rw [decide_eq_false e2] at hatz
              repeat refine AWp.seq ?_
              refine AWp.reg1D {} hT rfl (fun A hA => by
                  have f0 := ar_lt hA hz0
                  have f1 := ar_sub hA z 1 y hy (by omega) (by omega)
                  have f2 := ar_get hA hLy
                  have f3 := ar_le hA (show 0 ≤ y by omega)
                  have f4 := ar_nlt hA e1
                  have f5 := ar_ne hA e2
                  repeat (cbv; simp only [f0, f1, f2, f3, f4, f5])
                  cbv) (by kernel_rfl) (Nat.zero_le _) ?_
              try dsimp only [AExit.then, AExit.block]
              repeat refine AWp.seq ?_
              refine AWp.cond (b := false) rfl (AWp.skip ?_)
              try dsimp only [AExit.then, AExit.block]
              repeat refine AWp.seq ?_
              refine AWp.reg1 {} hT (fun A hA => by
                  have f0 := ar_add hA z 1 z1 hz1 (by omega) (by omega)
                  repeat (cbv; simp only [f0])
                  cbv) (Nat.zero_le _) ?_
              try dsimp only [AExit.then, AExit.block]
              exact ⟨z1, ⟨by omega, by omega, hnextok (by rw [hatz]; rfl)⟩, by omega, by cbv⟩
        · rw [show decide (z.toNat = 0) = true by simp; omega] at hatz
          repeat refine AWp.seq ?_
          refine AWp.reg1D {} hT rfl (fun A hA => by
              have f0 := ar_nlt hA hz0
              repeat (cbv; simp only [f0])
              cbv) (by kernel_rfl) (Nat.zero_le _) ?_
          try dsimp only [AExit.then, AExit.block]
          repeat refine AWp.seq ?_
          refine AWp.cond (b := false) rfl (AWp.skip ?_)
          try dsimp only [AExit.then, AExit.block]
          repeat refine AWp.seq ?_
          refine AWp.reg1 {} hT (fun A hA => by
              have f0 := ar_add hA z 1 z1 hz1 (by omega) (by omega)
              repeat (cbv; simp only [f0])
              cbv) (Nat.zero_le _) ?_
          try dsimp only [AExit.then, AExit.block]
          exact ⟨z1, ⟨by omega, by omega, hnextok (by rw [hatz]; rfl)⟩, by omega, by cbv⟩
  · have hFt : F = true := by
      rw [← hF, List.all_eq_true]
      exact fun i hi => h3 i (by have := List.mem_range.1 hi; omega)
    subst hFt
    repeat refine AWp.seq ?_
    refine AWp.reg1 {} hT (fun A hA => by
        have f0 := ar_nlt hA hz
        repeat (cbv; simp only [f0])
        cbv) (Nat.zero_le _) ?_
    try dsimp only [AExit.then, AExit.block]
    repeat refine AWp.seq ?_
    refine AWp.cond (b := false) rfl (AWp.exit ?_)
    try dsimp only [AExit.then, AExit.block]
    rw [if_pos rfl]
    repeat refine AWp.seq ?_
    refine AWp.reg1 {} hT (fun A hA => by cbv) (Nat.zero_le _) ?_
    try dsimp only [AExit.then, AExit.block]
    repeat refine AWp.seq ?_
    refine AWp.ret ⟨?_, rfl, rfl, Nat.zero_le _, _, rfl⟩
    rfl
end Go.Am
