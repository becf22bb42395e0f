/- Own text: D1ta. -/
import Derived.Test.YtalfdjihejohoaaD1nb
import Derived.Test.YtalfdjihejohoaaD1l
set_option maxRecDepth 100000
set_option linter.unusedVariables false
set_option linter.unusedSimpArgs false
namespace Go.Am
open Go Go.Proofs

theorem clone_ok (l : List Acc) (hl : l.length ≤ 1000) : ACall P 75 [.d (dAccs l)] [] (.own 2 (l.map dAcc)) [] := by
  unfold dAccs
  by_cases h0 : l = []
  · subst h0
    have e1 : ¬ (0 : Int) < 0 := by omega
    simp only [List.map_nil]
    refine ACall.enter hT (fn := Try.f75) Try.func75 rfl (by decide) (by simp [Try.f75]) rfl rfl rfl rfl (Nat.le_refl _) ?_
    repeat refine AWp.seq ?_
    refine AWp.reg1 {} hT (fun A hA => by cbv) (Nat.zero_le _) ?_
    try dsimp only [AExit.then, AExit.block]
    repeat refine AWp.seq ?_
    refine AWp.reg1 {} hT (fun A hA => by
        have f0 := ar_len hA [] 0 rfl
        have f1 := ar_nlt hA e1
        repeat (cbv; simp only [f0, f1])
        cbv) (Nat.zero_le _) ?_
    try dsimp only [AExit.then, AExit.block]
    repeat refine AWp.seq ?_
    refine AWp.condAny rfl ?_ (AWp.skip ?_)
    · repeat refine AWp.seq ?_
      refine AWp.reg1 {} hT (fun A hA => by cbv) (Nat.zero_le _) ?_
      try dsimp only [AExit.then, AExit.block]
      repeat refine AWp.seq ?_
      refine AWp.ret ⟨?_, rfl, rfl, Nat.zero_le _, _, rfl⟩
      rfl
    · dsimp only [AExit.then, AExit.block]
      repeat refine AWp.seq ?_
      refine AWp.reg1 {tk := [5, 7]} hT (fun A hA => by
          have f0 := ar_app hA [] [] [] rfl
          have f1 := ar_fits hA [] [] (by simp)
          repeat (cbv; simp only [f0, f1])
          cbv) (Nat.zero_le _) ?_
      try dsimp only [AExit.then, AExit.block]
      repeat refine AWp.seq ?_
      refine AWp.ret ⟨?_, rfl, rfl, Nat.zero_le _, _, rfl⟩
      rfl
  · obtain ⟨X, hX⟩ : ∃ X, l.map dAcc = X := ⟨_, rfl⟩
    obtain ⟨n, hn⟩ : ∃ n : Int, (X.length : Int) = n := ⟨_, rfl⟩
    have hln : (l.length : Int) = n := by rw [← hn, ← hX]; simp
    have hpos : 0 < l.length := List.length_pos_iff.2 h0
    rw [hX]
    refine ACall.enter hT (fn := Try.f75) Try.func75 rfl (by decide) (by simp [Try.f75]) rfl rfl rfl rfl (Nat.le_refl _) ?_
    repeat refine AWp.seq ?_
    refine AWp.reg1 {} hT (fun A hA => by cbv) (Nat.zero_le _) ?_
    try dsimp only [AExit.then, AExit.block]
    repeat refine AWp.seq ?_
    refine AWp.reg1 {} hT (fun A hA => by
        have f0 := ar_len hA X n hn
        have f1 := ar_lt hA (show (0 : Int) < n by omega)
        repeat (cbv; simp only [f0, f1])
        cbv) (Nat.zero_le _) ?_
    try dsimp only [AExit.then, AExit.block]
    repeat refine AWp.seq ?_
    refine AWp.cond (b := false) rfl (AWp.skip ?_)
    try dsimp only [AExit.then, AExit.block]
    repeat refine AWp.seq ?_
    refine AWp.reg1 {tk := [5, 7]} hT (fun A hA => by
        have f0 := ar_app hA [] X X rfl
        have f1 := ar_fits hA [] X (by simp; omega)
        repeat (cbv; simp only [f0, f1])
        cbv) (Nat.zero_le _) ?_
    try dsimp only [AExit.then, AExit.block]
    repeat refine AWp.seq ?_
    refine AWp.ret ⟨?_, rfl, rfl, Nat.zero_le _, _, rfl⟩
    rfl

theorem reverse0_ok : ACall P 76 [.d (.list 2 [])] [] (.tuple []) [] := by
  have e1 : ¬ (0 : Int) < -1 := by omega
  refine ACall.enter hT (fn := Try.f76) Try.func76 rfl (by decide) (by simp [Try.f76]) rfl rfl rfl rfl (Nat.le_refl _) ?_
  repeat refine AWp.seq ?_
  refine AWp.reg1 {} hT (fun A hA => by
      have f0 := ar_len hA [] 0 rfl
      have f1 := ar_sub hA 0 1 (-1) rfl (by omega) (by omega)
      repeat (cbv; simp only [f0, f1])
      cbv) (Nat.zero_le _) ?_
  try dsimp only [AExit.then, AExit.block]
  refine AWp.block (AWp.loopInv (ι := Unit) (fun _ => True) (fun z => 0) [0, 2, 3]
    (fun z => { env := [(0, .d (.list 2 [])), (2, AI 0), (3, AI (-1))], heap := [], n := 28 }) () (by cbv) trivial ?_)
  rintro _ _
  repeat refine AWp.seq ?_
  refine AWp.reg1 {} hT (fun A hA => by
      have f0 := ar_nlt hA e1
      repeat (cbv; simp only [f0])
      cbv) (Nat.zero_le _) ?_
  try dsimp only [AExit.then, AExit.block]
  repeat refine AWp.seq ?_
  refine AWp.cond (b := false) rfl (AWp.exit ?_)
  try dsimp only [AExit.then, AExit.block]
  rw [if_pos rfl]
  exact ⟨rfl, rfl, rfl, Nat.zero_le _, [], rfl⟩

theorem reverse_ok (x : List Acc) (n : Int) (hn : (x.length : Int) = n) (h1 : 1 ≤ n) (h2 : n ≤ 1000) : ACall P 76 [.mref 0 2 0 n] [.arr 2 (x.map dAcc)] (.tuple []) [.arr 2 (x.reverse.map dAcc)] := by
  obtain ⟨X, hX⟩ : ∃ X, x.map dAcc = X := ⟨_, rfl⟩
  obtain ⟨Y, hY⟩ : ∃ X, x.reverse.map dAcc = X := ⟨_, rfl⟩
  obtain ⟨m, hm⟩ : ∃ m, n - 1 = m := ⟨_, rfl⟩
  rw [hX, hY]
  refine ACall.enter hT (fn := Try.f76) Try.func76 rfl (by decide) (by simp [Try.f76]) rfl rfl rfl rfl (Nat.le_refl _) ?_
  repeat refine AWp.seq ?_
  refine AWp.reg1 {} hT (fun A hA => by
      have f0 := ar_sub hA n 1 m hm (by omega) (by omega)
      repeat (cbv; simp only [f0])
      cbv) (Nat.le_of_ble_eq_true rfl) ?_
  try dsimp only [AExit.then, AExit.block]
  refine AWp.block (AWp.loopInv (ι := List Acc × List D × Int × Int)
    (fun I => I.1.map dAcc = I.2.1 ∧ (I.1.length : Int) = n ∧ 0 ≤ I.2.2.1 ∧ I.2.2.1 + I.2.2.2 = m ∧ I.2.2.1 ≤ I.2.2.2 + 1 ∧ ∀ q : Nat, (q : Int) < n → I.1[q]? = if (q : Int) < I.2.2.1 ∨ I.2.2.2 < q then x[x.length - 1 - q]? else x[q]?)
    (fun I => (I.2.2.2 + 1 - I.2.2.1).toNat) [0, 2, 3]
    (fun I => { env := [(0, .mref 0 2 0 n), (2, AI I.2.2.1), (3, AI I.2.2.2)], heap := [.arr 2 I.2.1], n := 28 }) (x, X, 0, m) (by cbv) ⟨hX, hn, by dsimp only; omega, by dsimp only; omega, by dsimp only; omega, fun q hq => ?_⟩ ?_)
  · dsimp only
    rw [if_neg (by omega)]
  · rintro ⟨l, L, i, j⟩ ⟨g1, g2, g3, g4, g5, g6⟩
    dsimp only at *
    by_cases hij : i < j
    · obtain ⟨⟨v, p⟩, hi⟩ : ∃ s, l[i.toNat]? = some s := ⟨_, List.getElem?_eq_getElem (by omega)⟩
      obtain ⟨⟨v', p'⟩, hj⟩ : ∃ s, l[j.toNat]? = some s := ⟨_, List.getElem?_eq_getElem (by omega)⟩
      have hLi : L[i.toNat]? = some (.agg [I v, .bool p]) := by rw [← g1, List.getElem?_map, hi]; rfl
      have hLj : L[j.toNat]? = some (.agg [I v', .bool p']) := by rw [← g1, List.getElem?_map, hj]; rfl
      obtain ⟨L1, hL1⟩ : ∃ L1, L.set i.toNat (.agg [I v', .bool p']) = L1 := ⟨_, rfl⟩
      obtain ⟨L2, hL2⟩ : ∃ L2, L1.set j.toNat (.agg [I v, .bool p]) = L2 := ⟨_, rfl⟩
      have hs1 : ∀ A : Ar, A = Ar.std → A.lset L (A.nat i) (.agg [I v', .bool p']) = L1 := fun A hA => by subst hA; exact hL1
      have hs2 : ∀ A : Ar, A = Ar.std → A.lset L1 (A.nat j) (.agg [I v, .bool p]) = L2 := fun A hA => by subst hA; exact hL2
      have hL1j : L1[j.toNat]? = some (.agg [I v', .bool p']) := by rw [← hL1, List.getElem?_set_ne (by omega)]; exact hLj
      obtain ⟨i1, hi1⟩ : ∃ z1, i + 1 = z1 := ⟨_, rfl⟩
      obtain ⟨j1, hj1⟩ : ∃ z1, j - 1 = z1 := ⟨_, rfl⟩
      repeat refine AWp.seq ?_
      refine AWp.reg1 {} hT (fun A hA => by
          have f0 := ar_lt hA hij
          repeat (cbv; simp only [f0])
          cbv) (Nat.le_of_ble_eq_true rfl) ?_
      try dsimp only [AExit.then, AExit.block]
      repeat refine AWp.seq ?_
      refine AWp.cond (b := true) rfl (AWp.skip ?_)
      try dsimp only [AExit.then, AExit.block]
      repeat refine AWp.seq ?_
      refine AWp.block ?_
      repeat refine AWp.seq ?_
      refine AWp.reg1D {} hT rfl (fun A hA => by
          have f0 := ar_le hA (show (0:Int) ≤ i by omega)
          have f1 := ar_le hA (show (0:Int) ≤ j by omega)
          have f2 := ar_lt hA (show i < n by omega)
          have f3 := ar_lt hA (show j < n by omega)
          have f4 := ar_zadd0 hA i
          have f5 := ar_zadd0 hA j
          have f6 := ar_get hA hLi
          have f7 := ar_get hA hLj
          have f8 := hs1 A hA
          have f9 := ar_get hA hL1j
          have f10 := hs2 A hA
          repeat (cbv; simp only [f0, f1, f2, f3, f4, f5, f6, f7, f8, f9, f10])
          cbv) (by kernel_rfl) (Nat.le_of_ble_eq_true rfl) ?_
      try dsimp only [AExit.then, AExit.block]
      repeat refine AWp.seq ?_
      refine AWp.reg1 {} hT (fun A hA => by
          have f0 := ar_add hA i 1 i1 hi1 (by omega) (by omega)
          have f1 := ar_sub hA j 1 j1 hj1 (by omega) (by omega)
          repeat (cbv; simp only [f0, f1])
          cbv) (Nat.le_of_ble_eq_true rfl) ?_
      try dsimp only [AExit.then, AExit.block]
      refine ⟨((l.set i.toNat (v', p')).set j.toNat (v, p), L2, i1, j1), ⟨?_, by simpa using g2, by dsimp only; omega, by dsimp only; omega, by dsimp only; omega, fun q hq => ?_⟩, by dsimp only; omega, by cbv⟩
      · dsimp only
        rw [← hL2, ← hL1, ← g1, List.map_set, List.map_set]; rfl
      · dsimp only
        have hi' := g6 i.toNat (by omega)
        have hj' := g6 j.toNat (by omega)
        rw [if_neg (by omega)] at hi' hj'
        by_cases c1 : q = j.toNat
        · subst c1
          rw [List.getElem?_set_self (by simp; omega), if_pos (by omega), ← hi, hi']
          congr 1; omega
        · rw [List.getElem?_set_ne (fun e => c1 e.symm)]
          by_cases c2 : q = i.toNat
          · subst c2
            rw [List.getElem?_set_self (by omega), if_pos (by omega), ← hj, hj']
            congr 1; omega
          · rw [List.getElem?_set_ne (fun e => c2 e.symm), g6 q hq]
            by_cases c3 : (q : Int) < i ∨ j < q
            · rw [if_pos c3, if_pos (by omega)]
            · rw [if_neg c3, if_neg (by omega)]
    · repeat refine AWp.seq ?_
      refine AWp.reg1 {} hT (fun A hA => by
          have f0 := ar_nlt hA hij
          repeat (cbv; simp only [f0])
          cbv) (Nat.le_of_ble_eq_true rfl) ?_
      try dsimp only [AExit.then, AExit.block]
      repeat refine AWp.seq ?_
      refine AWp.cond (b := false) rfl (AWp.exit ?_)
      try dsimp only [AExit.then, AExit.block]
      rw [if_pos rfl]
      have : L = Y := by
        rw [← g1, ← hY]
        congr 1
        apply List.ext_getElem?
        intro q
        by_cases hq : (q : Int) < n
        · rw [g6 q hq, List.getElem?_reverse (by omega)]
          by_cases c3 : (q : Int) < i ∨ j < q
          · rw [if_pos c3]
          · rw [if_neg c3]
            congr 1; omega
        · rw [List.getElem?_eq_none (by omega), List.getElem?_eq_none (by simp; omega)]
      rw [this]
      exact ⟨rfl, rfl, rfl, Nat.le_refl _, [], rfl⟩
end Go.Am
