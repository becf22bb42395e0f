/- Own text: D1xc, D1v, D1xd, D1ff. -/
import Derived.Test.YtalfdjihejohoaaD1xb
import Derived.Test.YtalfdjihejohoaaD1ta
import Derived.Test.YtalfdjihejohoaaD1fe
set_option maxRecDepth 100000
set_option linter.unusedVariables false
set_option linter.unusedSimpArgs false
namespace Go.Am
open Go Go.Proofs

def inL (s u : Sta) : Bool := decide (u = s) && decide (s.2.1 < s.2.2)
def neededR (x : List (List Acc)) : List Sta := (stationsR x).filter fun s => (circlesR x).any fun l => l.any (inL s)
theorem any_take_succ {α : Type} (l : List α) (f : α → Bool) (n : Nat) (a : α) (h : l[n]? = some a) : (l.take (n + 1)).any f = ((l.take n).any f || f a) := by
  rw [List.take_add_one, h, List.any_append]; simp

theorem neededR_ok (x : List (List Acc)) (hx : Small x) (hlen : (stationsR x).length ≤ 1000) (hth : ∀ s ∈ stationsR x, isThere x s = true) (hcl : (circlesR x).length ≤ 1000000000000) (hc3 : ∀ l ∈ circlesR x, l.length ≤ 3) : ACall P 83 [.d (dX x)] [] (.own 3 ((neededR x).map dSta)) [] := by
  have cst := stationsR_ok x hx
  have ccs := circlesR_ok x hx hlen hth
  unfold neededR
  obtain ⟨all, hall⟩ : ∃ l, stationsR x = l := ⟨_, rfl⟩
  obtain ⟨cs, hcs⟩ : ∃ l, circlesR x = l := ⟨_, rfl⟩
  rw [hall] at cst hlen ⊢
  rw [hcs] at ccs hcl hc3 ⊢
  obtain ⟨S, hS⟩ : ∃ S, all.map dSta = S := ⟨_, rfl⟩
  obtain ⟨n, hn⟩ : ∃ n : Int, (S.length : Int) = n := ⟨_, rfl⟩
  have hln : (all.length : Int) = n := by rw [← hn, ← hS]; simp
  obtain ⟨C, hC⟩ : ∃ S, cs.map dLs = S := ⟨_, rfl⟩
  obtain ⟨m, hm⟩ : ∃ n : Int, (C.length : Int) = n := ⟨_, rfl⟩
  have hlm : (cs.length : Int) = m := by rw [← hm, ← hC]; simp
  obtain ⟨X, hX⟩ : ∃ X, dX x = X := ⟨_, rfl⟩
  rw [hX, hS] at cst
  rw [hX, hC] at ccs
  rw [hX]
  obtain ⟨p, hp⟩ : ∃ p : Sta → Bool, (fun s => cs.any fun l => l.any (inL s)) = p := ⟨_, rfl⟩
  have hpp : ∀ s, p s = cs.any fun l => l.any (inL s) := fun s => by rw [← hp]
  rw [hp]
  refine ACall.enter hT (fn := Try.f83) Try.func83 rfl (by decide) (by simp [Try.f83]) rfl rfl rfl rfl (Nat.le_refl _) ?_
  repeat refine AWp.seq ?_
  refine AWp.reg1 {tk := [2]} hT (fun A hA => by cbv) (Nat.zero_le _) ?_
  try dsimp only [AExit.then, AExit.block]
  repeat refine AWp.seq ?_
  refine AWp.reg1 {tk := [3]} hT (fun A hA => by cbv) (Nat.zero_le _) ?_
  try dsimp only [AExit.then, AExit.block]
  repeat refine AWp.seq ?_
  refine AWp.region ?_
  refine AOps.stepCall hT (an := {}) (fun A hA => by cbv) (Nat.zero_le _) rfl (.inr rfl) rfl rfl rfl (Nat.le_of_ble_eq_true rfl) rfl rfl (ccs) ?_
  refine AOps.done hT (an := {}) (fun A hA => by cbv) (Nat.zero_le _) ?_
  try dsimp only [AExit.then, AExit.block]
  repeat refine AWp.seq ?_
  refine AWp.region ?_
  refine AOps.stepCall hT (an := {}) (fun A hA => by cbv) (Nat.zero_le _) rfl (.inr rfl) rfl rfl rfl (Nat.le_of_ble_eq_true rfl) rfl rfl (cst) ?_
  refine AOps.done hT (an := {}) (fun A hA => by
      have f0 := ar_len hA S n hn
      repeat (cbv; simp only [f0])
      cbv) (Nat.zero_le _) ?_
  try dsimp only [AExit.then, AExit.block]
  refine AWp.block (AWp.loopInv (ι := Int × List D) (fun p' => 0 ≤ p'.1 ∧ p'.1 ≤ n ∧ p'.2 = ((all.take p'.1.toNat).filter p).map dSta ∧ p'.2.length ≤ p'.1) (fun p => (n - p.1).toNat) [3, 4, 15, 16, 17]
    (fun p => { env := [(3, .own 3 p.2), (4, .d (.list 1 C)), (15, .own 3 S), (16, AI n), (17, AI p.1)], heap := [], n := 55 }) (0, []) (by cbv) ⟨Int.le_refl _, by dsimp only; omega, by simp, by simp⟩ ?_)
  rintro ⟨z, l⟩ ⟨h0, h1, hl, hlen1⟩
  dsimp only at *
  by_cases hz : z < n
  · obtain ⟨⟨t, a, b⟩, hs⟩ : ∃ s, all[z.toNat]? = some s := ⟨_, List.getElem?_eq_getElem (by omega)⟩
    have hSz : S[z.toNat]? = some (.agg [I t, I a, I b]) := by rw [← hS, List.getElem?_map, hs]; rfl
    obtain ⟨z1, hz1⟩ : ∃ z1, z + 1 = z1 := ⟨_, rfl⟩
    have hz1n : z1.toNat = z.toNat + 1 := by omega
    have hpz := hpp (t, a, b)
    obtain ⟨lt, hlt⟩ : ∃ r, decide (a < b) = r := ⟨_, rfl⟩
    have hl' : ∀ A : Ar, A = Ar.std → A.zlt a b = lt := fun A hA => by subst hA; exact hlt
    obtain ⟨q, hq⟩ : ∃ p : Sta → Bool, inL (t, a, b) = p := ⟨_, rfl⟩
    have hqq : ∀ u, q u = (decide (u = (t, a, b)) && lt) := fun s => by rw [← hq, ← hlt]; rfl
    rw [hq] at hpz
    obtain ⟨Q, hQ⟩ : ∃ p : List Sta → Bool, (fun l : List Sta => l.any q) = p := ⟨_, rfl⟩
    have hQQ : ∀ l, Q l = l.any q := fun s => by rw [← hQ]
    rw [hQ] at hpz
    have hstep : all.take z1.toNat = all.take z.toNat ++ [(t, a, b)] := by rw [hz1n, List.take_add_one, hs]; rfl
    repeat refine AWp.seq ?_
    refine AWp.reg1 {} hT (fun A hA => by
        have f0 := ar_lt hA hz
        repeat (cbv; simp only [f0])
        cbv) (Nat.zero_le _) ?_
    try dsimp only [AExit.then, AExit.block]
    repeat refine AWp.seq ?_
    refine AWp.cond (b := true) rfl (AWp.skip ?_)
    try dsimp only [AExit.then, AExit.block]
    repeat refine AWp.seq ?_
    refine AWp.block ?_
    repeat refine AWp.seq ?_
    refine AWp.reg1 {} hT (fun A hA => by
        have f0 := ar_get hA hSz
        have f1 := ar_le hA h0
        repeat (cbv; simp only [f0, f1])
        cbv) (Nat.zero_le _) ?_
    try dsimp only [AExit.then, AExit.block]
    repeat refine AWp.seq ?_
    refine AWp.reg1 {} hT (fun A hA => by cbv) (Nat.zero_le _) ?_
    try dsimp only [AExit.then, AExit.block]
    repeat refine AWp.seq ?_
    refine AWp.reg1 {} hT (fun A hA => by
        have f0 := ar_len hA C m hm
        repeat (cbv; simp only [f0])
        cbv) (Nat.zero_le _) ?_
    try dsimp only [AExit.then, AExit.block]
    refine AWp.block (AWp.loopInv (ι := Int × Bool) (fun p => 0 ≤ p.1 ∧ p.1 ≤ m ∧ p.2 = (cs.take p.1.toNat).any Q) (fun p => (m - p.1).toNat) [3, 4, 6, 7, 15, 16, 17, 21, 22, 23]
      (fun p => { env := [(3, .own 3 l), (4, .d (.list 1 C)), (6, .lbox [AI t, AI a, AI b]), (7, AB p.2), (15, .own 3 S), (16, AI n), (17, AI z), (21, .d (.list 1 C)), (22, AI m), (23, AI p.1)], heap := [], n := 55 }) (0, false) (by cbv) ⟨Int.le_refl _, by dsimp only; omega, by simp⟩ ?_)
    rintro ⟨y, is⟩ ⟨g0, g1, g2⟩
    dsimp only at *
    by_cases hy : y < m
    · obtain ⟨c, hc⟩ : ∃ s, cs[y.toNat]? = some s := ⟨_, List.getElem?_eq_getElem (by omega)⟩
      have hc3' := hc3 c (List.mem_of_getElem? hc)
      obtain ⟨L, hL⟩ : ∃ S, c.map dSta = S := ⟨_, rfl⟩
      obtain ⟨k, hk⟩ : ∃ n : Int, (L.length : Int) = n := ⟨_, rfl⟩
      have hlk : (c.length : Int) = k := by rw [← hk, ← hL]; simp
      have hCy : C[y.toNat]? = some (.list 3 L) := by rw [← hC, List.getElem?_map, hc, ← hL]; rfl
      obtain ⟨y1, hy1⟩ : ∃ z1, y + 1 = z1 := ⟨_, rfl⟩
      have hany := any_take_succ cs Q y.toNat c hc
      rw [← g2, hQQ, show y.toNat + 1 = y1.toNat by omega] at hany
      repeat refine AWp.seq ?_
      refine AWp.reg1 {} hT (fun A hA => by
          have f0 := ar_lt hA hy
          repeat (cbv; simp only [f0])
          cbv) (Nat.zero_le _) ?_
      try dsimp only [AExit.then, AExit.block]
      repeat refine AWp.seq ?_
      refine AWp.cond (b := true) rfl (AWp.skip ?_)
      try dsimp only [AExit.then, AExit.block]
      repeat refine AWp.seq ?_
      refine AWp.block ?_
      repeat refine AWp.seq ?_
      refine AWp.reg1 {} hT (fun A hA => by
          have f0 := ar_get hA hCy
          have f1 := ar_le hA g0
          repeat (cbv; simp only [f0, f1])
          cbv) (Nat.zero_le _) ?_
      try dsimp only [AExit.then, AExit.block]
      repeat refine AWp.seq ?_
      refine AWp.reg1 {} hT (fun A hA => by
          have f0 := ar_len hA L k hk
          repeat (cbv; simp only [f0])
          cbv) (Nat.zero_le _) ?_
      try dsimp only [AExit.then, AExit.block]
      refine AWp.block (AWp.loopInv (ι := Int × Bool) (fun p => 0 ≤ p.1 ∧ p.1 ≤ k ∧ p.2 = (is || (c.take p.1.toNat).any q)) (fun p => (k - p.1).toNat) [3, 4, 6, 7, 15, 16, 17, 21, 22, 23, 27, 28, 29]
        (fun p => { env := [(3, .own 3 l), (4, .d (.list 1 C)), (6, .lbox [AI t, AI a, AI b]), (7, AB p.2), (15, .own 3 S), (16, AI n), (17, AI z), (21, .d (.list 1 C)), (22, AI m), (23, AI y), (27, .d (.list 3 L)), (28, AI k), (29, AI p.1)], heap := [], n := 55 }) (0, is) (by cbv) ⟨Int.le_refl _, by dsimp only; omega, by simp⟩ ?_)
      rintro ⟨v, is2⟩ ⟨e0, e1, e2⟩
      dsimp only at *
      by_cases hv : v < k
      · obtain ⟨⟨u, f, g⟩, hu⟩ : ∃ s, c[v.toNat]? = some s := ⟨_, List.getElem?_eq_getElem (by omega)⟩
        have hLv : L[v.toNat]? = some (.agg [I u, I f, I g]) := by rw [← hL, List.getElem?_map, hu]; rfl
        obtain ⟨v1, hv1⟩ : ∃ z1, v + 1 = z1 := ⟨_, rfl⟩
        have hany2 := any_take_succ c q v.toNat _ hu
        rw [show v.toNat + 1 = v1.toNat by omega, hqq] at hany2
        obtain ⟨r, hr⟩ : ∃ r, decide ((u, f, g) = (t, a, b)) = r := ⟨_, rfl⟩
        have hdeq : ∀ A : Ar, A = Ar.std → A.deq [I u, I f, I g] [I t, I a, I b] = r := fun A hA => ar_deq hA (by rw [← hr]; simp)
        rw [hr] at hany2
        have hnew : ∀ is3, is3 = (is2 || (r && lt)) → is3 = (is || (c.take v1.toNat).any q) := fun is3 h => by rw [hany2, h, e2, Bool.or_assoc]
        repeat refine AWp.seq ?_
        refine AWp.reg1 {} hT (fun A hA => by
            have f0 := ar_lt hA hv
            repeat (cbv; simp only [f0])
            cbv) (Nat.zero_le _) ?_
        try dsimp only [AExit.then, AExit.block]
        repeat refine AWp.seq ?_
        refine AWp.cond (b := true) rfl (AWp.skip ?_)
        try dsimp only [AExit.then, AExit.block]
        repeat refine AWp.seq ?_
        refine AWp.block ?_
        repeat refine AWp.seq ?_
        refine AWp.reg1 {} hT (fun A hA => by
            have f0 := ar_get hA hLv
            have f1 := ar_le hA e0
            repeat (cbv; simp only [f0, f1])
            cbv) (Nat.zero_le _) ?_
        try dsimp only [AExit.then, AExit.block]
        cases is2 with
        | true =>
          repeat refine AWp.seq ?_
          refine AWp.reg1 {} hT (fun A hA => by cbv) (Nat.zero_le _) ?_
          try dsimp only [AExit.then, AExit.block]
          repeat refine AWp.seq ?_
          refine AWp.reg1 {} hT (fun A hA => by
              have f0 := ar_add hA v 1 v1 hv1 (by omega) (by omega)
              repeat (cbv; simp only [f0])
              cbv) (Nat.zero_le _) ?_
          try dsimp only [AExit.then, AExit.block]
          exact ⟨(v1, true), ⟨by dsimp only; omega, by dsimp only; omega, hnew _ rfl⟩, by dsimp only; omega, by cbv⟩
        | false =>
          cases r with
          | true =>
            repeat refine AWp.seq ?_
            refine AWp.reg1 {} hT (fun A hA => by
                have f0 := hdeq A hA
                have f1 := hl' A hA
                repeat (cbv; simp only [f0, f1])
                cbv) (Nat.zero_le _) ?_
            try dsimp only [AExit.then, AExit.block]
            repeat refine AWp.seq ?_
            refine AWp.reg1 {} hT (fun A hA => by
                have f0 := ar_add hA v 1 v1 hv1 (by omega) (by omega)
                repeat (cbv; simp only [f0])
                cbv) (Nat.zero_le _) ?_
            try dsimp only [AExit.then, AExit.block]
            exact ⟨(v1, lt), ⟨by dsimp only; omega, by dsimp only; omega, hnew _ (by simp)⟩, by dsimp only; omega, by cbv⟩
          | false =>
            repeat refine AWp.seq ?_
            refine AWp.reg1 {} hT (fun A hA => by
                have f0 := hdeq A hA
                repeat (cbv; simp only [f0])
                cbv) (Nat.zero_le _) ?_
            try dsimp only [AExit.then, AExit.block]
            repeat refine AWp.seq ?_
            refine AWp.reg1 {} hT (fun A hA => by
                have f0 := ar_add hA v 1 v1 hv1 (by omega) (by omega)
                repeat (cbv; simp only [f0])
                cbv) (Nat.zero_le _) ?_
            try dsimp only [AExit.then, AExit.block]
            exact ⟨(v1, false), ⟨by dsimp only; omega, by dsimp only; omega, hnew _ rfl⟩, by dsimp only; omega, by cbv⟩
      · rw [List.take_of_length_le (by omega)] at e2
        repeat refine AWp.seq ?_
        refine AWp.reg1 {} hT (fun A hA => by
            have f0 := ar_nlt hA hv
            repeat (cbv; simp only [f0])
            cbv) (Nat.zero_le _) ?_
        try dsimp only [AExit.then, AExit.block]
        repeat refine AWp.seq ?_
        refine AWp.cond (b := false) rfl (AWp.exit ?_)
        try dsimp only [AExit.then, AExit.block]
        rw [if_pos rfl]
        repeat refine AWp.seq ?_
        refine AWp.reg1 {} hT (fun A hA => by
            have f0 := ar_add hA y 1 y1 hy1 (by omega) (by omega)
            repeat (cbv; simp only [f0])
            cbv) (Nat.zero_le _) ?_
        try dsimp only [AExit.then, AExit.block]
        exact ⟨(y1, is2), ⟨by dsimp only; omega, by dsimp only; omega, by dsimp only; rw [hany, e2]⟩, by dsimp only; omega, by cbv⟩
    · rw [List.take_of_length_le (by omega), ← hpz] at g2
      subst g2
      obtain ⟨r, hr⟩ : ∃ r, p (t, a, b) = r := ⟨_, rfl⟩
      rw [hr]
      repeat refine AWp.seq ?_
      refine AWp.reg1 {} hT (fun A hA => by
          have f0 := ar_nlt hA hy
          repeat (cbv; simp only [f0])
          cbv) (Nat.zero_le _) ?_
      try dsimp only [AExit.then, AExit.block]
      repeat refine AWp.seq ?_
      refine AWp.cond (b := false) rfl (AWp.exit ?_)
      try dsimp only [AExit.then, AExit.block]
      rw [if_pos rfl]
      repeat refine AWp.seq ?_
      refine AWp.reg1 {} hT (fun A hA => by cbv) (Nat.zero_le _) ?_
      try dsimp only [AExit.then, AExit.block]
      cases r with
      | true =>
        obtain ⟨L1, hL1⟩ : ∃ l3, l ++ [.agg [I t, I a, I b]] = l3 := ⟨_, rfl⟩
        repeat refine AWp.seq ?_
        refine AWp.cond (b := true) rfl ?_
        rw [if_pos rfl]
        repeat refine AWp.seq ?_
        refine AWp.reg1 {tk := [3, 49, 52]} hT (fun A hA => by
            have f0 := ar_app hA _ _ _ hL1
            have f1 := ar_fits hA l [.agg [I t, I a, I b]] (by simp; omega)
            repeat (cbv; simp only [f0, f1])
            cbv) (Nat.zero_le _) ?_
        try dsimp only [AExit.then, AExit.block]
        repeat refine AWp.seq ?_
        refine AWp.reg1 {} hT (fun A hA => by
            have f0 := ar_add hA z 1 z1 hz1 (by omega) (by omega)
            repeat (cbv; simp only [f0])
            cbv) (Nat.zero_le _) ?_
        try dsimp only [AExit.then, AExit.block]
        refine ⟨(z1, L1), ⟨by dsimp only; omega, by dsimp only; omega, ?_, by rw [← hL1]; simp; omega⟩, by dsimp only; omega, by cbv⟩
        dsimp only
        rw [hstep, List.filter_append, List.map_append, ← hl, ← hL1]
        simp [hr, dSta]
      | false =>
        repeat refine AWp.seq ?_
        refine AWp.cond (b := false) rfl (AWp.skip ?_)
        try dsimp only [AExit.then, AExit.block]
        repeat refine AWp.seq ?_
        refine AWp.reg1 {} hT (fun A hA => by
            have f0 := ar_add hA z 1 z1 hz1 (by omega) (by omega)
            repeat (cbv; simp only [f0])
            cbv) (Nat.zero_le _) ?_
        try dsimp only [AExit.then, AExit.block]
        refine ⟨(z1, l), ⟨by dsimp only; omega, by dsimp only; omega, ?_, by dsimp only; omega⟩, by dsimp only; omega, by cbv⟩
        dsimp only
        rw [hstep, List.filter_append, List.map_append, ← hl]
        simp [hr]
  · rw [List.take_of_length_le (by omega)] at hl
    rw [← hl]
    repeat refine AWp.seq ?_
    refine AWp.reg1 {} hT (fun A hA => by
        have f0 := ar_nlt hA hz
        repeat (cbv; simp only [f0])
        cbv) (Nat.zero_le _) ?_
    try dsimp only [AExit.then, AExit.block]
    repeat refine AWp.seq ?_
    refine AWp.cond (b := false) rfl (AWp.exit ?_)
    try dsimp only [AExit.then, AExit.block]
    rw [if_pos rfl]
    repeat refine AWp.seq ?_
    refine AWp.reg1 {tk := [3, 54]} hT (fun A hA => by cbv) (Nat.zero_le _) ?_
    try dsimp only [AExit.then, AExit.block]
    repeat refine AWp.seq ?_
    refine AWp.ret ⟨?_, rfl, rfl, Nat.zero_le _, _, rfl⟩
    rfl
end Go.Am

set_option maxRecDepth 100000
set_option linter.unusedVariables false
set_option linter.unusedSimpArgs false
namespace Go.Am
open Go Go.Proofs

theorem DelayConflicts_ok (x : List (List Acc)) (t a u b : Int) (hx : Big x) (law1 : nConfR x = nConf x) (law2 : pairsR x = pairsL x) :
    ACall P 4 [.d (dX x), AI t, AI a, AI u, AI b] [] (AB true) [] := by
  have clo := long_ok x hx
  have caw := awake_ok
  cases hlo : long x with
  | true =>
    rw [hlo] at clo
    obtain ⟨X, hX⟩ : ∃ X, dX x = X := ⟨_, rfl⟩
    rw [hX] at clo ⊢
    refine ACall.enter hT (fn := Try.f4) Try.func4 rfl (by decide) (by simp [Try.f4]) rfl rfl rfl rfl (Nat.le_refl _) ?_
    repeat refine AWp.seq ?_
    refine AWp.reg1 {} hT (fun A hA => by cbv) (Nat.zero_le _) ?_
    try dsimp only [AExit.then, AExit.block]
    repeat refine AWp.seq ?_
    refine AWp.region ?_
    refine AOps.stepCall hT (an := {}) (fun A hA => by cbv) (Nat.zero_le _) rfl (.inr rfl) rfl rfl rfl (Nat.le_of_ble_eq_true rfl) rfl rfl (clo) ?_
    refine AOps.done hT (an := {}) (fun A hA => by cbv) (Nat.zero_le _) ?_
    try dsimp only [AExit.then, AExit.block]
    repeat refine AWp.seq ?_
    refine AWp.cond (b := true) rfl ?_
    rw [if_pos rfl]
    repeat refine AWp.seq ?_
    refine AWp.region ?_
    refine AOps.stepCall hT (an := {}) (fun A hA => by cbv) (Nat.zero_le _) rfl (.inr rfl) rfl rfl rfl (Nat.le_of_ble_eq_true rfl) rfl rfl (caw) ?_
    refine AOps.done hT (an := {}) (fun A hA => by cbv) (Nat.zero_le _) ?_
    try dsimp only [AExit.then, AExit.block]
    repeat refine AWp.seq ?_
    refine AWp.ret ⟨?_, rfl, rfl, Nat.zero_le _, _, rfl⟩
    rfl
  | false =>
    rw [hlo] at clo
    have c1 := Conflict_ok x t a u b hx (fun h => valid_small h)
    have c2 := ConflictR_ok x t a u b hx (fun h => valid_small h)
    have c3 := valid_ok x hx
    have c4 := validR_ok x hx
    have c5 := conflicts_ok x hx (fun h => valid_small h)
    have c6 := conflictsR_ok x hx (fun h => valid_small h)
    have c7 := Pairs_ok x hx (fun h => ⟨valid_small h, Nat.le_trans (stations_48 h) (by omega)⟩)
    have c8 := PairsR_ok x hx (fun h => valid_small h)
    rw [law1] at c6
    rw [law2] at c8
    obtain ⟨l, hl, hll⟩ : ∃ l : List Sta, (if valid x then (pairsL x).map dSta else []) = l.map dSta ∧ l.length ≤ 9223372036854775807 := by
      cases hv : valid x with
      | false => exact ⟨[], by simp, by simp⟩
      | true =>
        refine ⟨pairsL x, by simp, ?_⟩
        have := stations_48 hv
        have h2 := List.length_filter_le (isPair x) (stations x)
        unfold pairsL
        omega
    have c9 := sameStations_ok l l hll
    rw [← hl] at c9
    rw [decide_eq_true rfl] at c9
    obtain ⟨i1, e1, hce⟩ : ∃ i e, conflictT x t a u b = [AB i, AI e] := by
      unfold conflictT
      split
      · split <;> exact ⟨_, _, rfl⟩
      · exact ⟨_, _, rfl⟩
    obtain ⟨n1, e2, hne⟩ : ∃ n e, (if valid x then [AI (nConf x), AI 0] else [AI 0, AI 90]) = [AI n, AI e] := by
      split <;> exact ⟨_, _, rfl⟩
    rw [hce] at c1 c2
    rw [hne] at c5 c6
    obtain ⟨e3, he3⟩ : ∃ e : Int, (if valid x then 0 else 90) = e := ⟨_, rfl⟩
    rw [he3] at c7 c8
    obtain ⟨R, hR⟩ : ∃ R, (if valid x then (pairsL x).map dSta else []) = R := ⟨_, rfl⟩
    rw [hR] at c7 c8 c9
    obtain ⟨v, hv⟩ : ∃ v, valid x = v := ⟨_, rfl⟩
    rw [hv] at c3 c4
    obtain ⟨X, hX⟩ : ∃ X, dX x = X := ⟨_, rfl⟩
    rw [hX] at clo c1 c2 c3 c4 c5 c6 c7 c8 ⊢
    have hvv : (v == v) = true := by cases v <;> rfl
    have hii : (i1 == i1) = true := by cases i1 <;> rfl
    refine ACall.enter hT (fn := Try.f4) Try.func4 rfl (by decide) (by simp [Try.f4]) rfl rfl rfl rfl (Nat.le_refl _) ?_
    repeat refine AWp.seq ?_
    refine AWp.reg1 {} hT (fun A hA => by cbv) (Nat.zero_le _) ?_
    try dsimp only [AExit.then, AExit.block]
    repeat refine AWp.seq ?_
    refine AWp.region ?_
    refine AOps.stepCall hT (an := {}) (fun A hA => by cbv) (Nat.zero_le _) rfl (.inr rfl) rfl rfl rfl (Nat.le_of_ble_eq_true rfl) rfl rfl (clo) ?_
    refine AOps.done hT (an := {}) (fun A hA => by cbv) (Nat.zero_le _) ?_
    try dsimp only [AExit.then, AExit.block]
    repeat refine AWp.seq ?_
    refine AWp.cond (b := false) rfl (AWp.skip ?_)
    try dsimp only [AExit.then, AExit.block]
    repeat refine AWp.seq ?_
    refine AWp.region ?_
    refine AOps.stepCall hT (an := {}) (fun A hA => by cbv) (Nat.zero_le _) rfl (.inr rfl) rfl rfl rfl (Nat.le_of_ble_eq_true rfl) rfl rfl (c1) ?_
    refine AOps.done hT (an := {}) (fun A hA => by cbv) (Nat.zero_le _) ?_
    try dsimp only [AExit.then, AExit.block]
    repeat refine AWp.seq ?_
    refine AWp.region ?_
    refine AOps.stepCall hT (an := {}) (fun A hA => by cbv) (Nat.zero_le _) rfl (.inr rfl) rfl rfl rfl (Nat.le_of_ble_eq_true rfl) rfl rfl (c2) ?_
    refine AOps.done hT (an := {}) (fun A hA => by cbv) (Nat.zero_le _) ?_
    try dsimp only [AExit.then, AExit.block]
    repeat refine AWp.seq ?_
    refine AWp.region ?_
    refine AOps.stepCall hT (an := {}) (fun A hA => by cbv) (Nat.zero_le _) rfl (.inr rfl) rfl rfl rfl (Nat.le_of_ble_eq_true rfl) rfl rfl (c3) ?_
    refine AOps.stepCall hT (an := {}) (fun A hA => by cbv) (Nat.zero_le _) rfl (.inr rfl) rfl rfl rfl (Nat.le_of_ble_eq_true rfl) rfl rfl (c4) ?_
    refine AOps.done hT (an := {}) (fun A hA => by
        have f0 := ar_beq hA hvv
        have f1 := ar_beq hA hii
        have f2 := ar_eq hA (rfl : e1 = e1)
        repeat (cbv; simp only [f0, f1, f2])
        cbv) (Nat.zero_le _) ?_
    try dsimp only [AExit.then, AExit.block]
    repeat refine AWp.seq ?_
    refine AWp.cond (b := false) rfl (AWp.skip ?_)
    try dsimp only [AExit.then, AExit.block]
    repeat refine AWp.seq ?_
    refine AWp.region ?_
    refine AOps.stepCall hT (an := {}) (fun A hA => by cbv) (Nat.zero_le _) rfl (.inr rfl) rfl rfl rfl (Nat.le_of_ble_eq_true rfl) rfl rfl (c5) ?_
    refine AOps.done hT (an := {}) (fun A hA => by cbv) (Nat.zero_le _) ?_
    try dsimp only [AExit.then, AExit.block]
    repeat refine AWp.seq ?_
    refine AWp.region ?_
    refine AOps.stepCall hT (an := {}) (fun A hA => by cbv) (Nat.zero_le _) rfl (.inr rfl) rfl rfl rfl (Nat.le_of_ble_eq_true rfl) rfl rfl (c6) ?_
    refine AOps.done hT (an := {}) (fun A hA => by cbv) (Nat.zero_le _) ?_
    try dsimp only [AExit.then, AExit.block]
    repeat refine AWp.seq ?_
    refine AWp.region ?_
    refine AOps.stepCall hT (an := {}) (fun A hA => by cbv) (Nat.zero_le _) rfl (.inr rfl) rfl rfl rfl (Nat.le_of_ble_eq_true rfl) rfl rfl (c7) ?_
    refine AOps.done hT (an := {}) (fun A hA => by cbv) (Nat.zero_le _) ?_
    try dsimp only [AExit.then, AExit.block]
    repeat refine AWp.seq ?_
    refine AWp.region ?_
    refine AOps.stepCall hT (an := {}) (fun A hA => by cbv) (Nat.zero_le _) rfl (.inr rfl) rfl rfl rfl (Nat.le_of_ble_eq_true rfl) rfl rfl (c8) ?_
    refine AOps.done hT (an := {}) (fun A hA => by cbv) (Nat.zero_le _) ?_
    try dsimp only [AExit.then, AExit.block]
    repeat refine AWp.seq ?_
    refine AWp.region ?_
    refine AOps.stepCall hT (an := {}) (fun A hA => by
        have f0 := ar_eq hA (rfl : n1 = n1)
        have f1 := ar_eq hA (rfl : e2 = e2)
        repeat (cbv; simp only [f0, f1])
        cbv) (Nat.zero_le _) rfl (.inr rfl) rfl rfl rfl (Nat.le_of_ble_eq_true rfl) rfl rfl (c9) ?_
    refine AOps.stepCall hT (an := {}) (fun A hA => by
        have f0 := ar_eq hA (rfl : e3 = e3)
        repeat (cbv; simp only [f0])
        cbv) (Nat.zero_le _) rfl (.inr rfl) rfl rfl rfl (Nat.le_of_ble_eq_true rfl) rfl rfl (caw) ?_
    refine AOps.done hT (an := {}) (fun A hA => by cbv) (Nat.zero_le _) ?_
    try dsimp only [AExit.then, AExit.block]
    repeat refine AWp.seq ?_
    refine AWp.ret ⟨?_, rfl, rfl, Nat.zero_le _, _, rfl⟩
    rfl

/-! ### The laws -/
theorem filter_range_le (p : Nat → Bool) (a : Nat) : ∀ n, (∀ b, p b = true → a ≤ b) → (List.range n).filter (fun b => decide (a ≤ b) && p b) = (List.range n).filter p := by
  intro n h
  apply List.filter_congr
  intro b _
  cases hp : p b with
  | false => simp
  | true => simp [h b hp]

theorem pairsR_eq (x : List (List Acc)) : pairsR x = pairsL x := by
  unfold pairsR pairsL stationsR stations stRT staT
  rw [List.filter_flatMap, List.filter_flatMap]
  congr 1
  funext t
  unfold stRA staA
  rw [List.filter_flatMap, List.filter_flatMap]
  congr 1
  funext a
  unfold stRB staB
  rw [List.filter_map, List.filter_map, List.filter_filter, List.filter_filter]
  congr 1
  apply List.filter_congr
  intro b _
  simp only [Function.comp]
  cases hp : isPair x ((t : Int), (a : Int), (b : Int)) with
  | false =>
    by_cases e : a = b
    · subst e; simp
    · simp [e]
  | true =>
    have : (a : Int) < b := by
      unfold isPair at hp
      simp only [Bool.and_eq_true, decide_eq_true_eq] at hp
      exact hp.1.1.1
    have h1 : decide (a ≤ b) = true := by simp; omega
    have h2 : decide ((a : Int) < b) = true := by simp; omega
    simp [h1]; omega
end Go.Am

set_option maxRecDepth 100000
set_option linter.unusedVariables false
set_option linter.unusedSimpArgs false
namespace Go.Am
open Go Go.Proofs

theorem flatMap_congr' {α β : Type} {l : List α} {f g : α → List β} (h : ∀ a ∈ l, f a = g a) : l.flatMap f = l.flatMap g := by
  induction l with
  | nil => rfl
  | cons a r ih => rw [List.flatMap_cons, List.flatMap_cons, h a (by simp), ih (fun b hb => h b (by simp [hb]))]
theorem stationsR_eq (x : List (List Acc)) : stationsR x = stations x := by
  unfold stationsR stations stRT staT
  congr 1
  funext t
  unfold stRA staA
  congr 1
  funext a
  unfold stRB staB
  congr 1
  apply List.filter_congr
  intro b _
  cases hp : isPair x ((t : Int), (a : Int), (b : Int)) with
  | false =>
    by_cases e : a = b
    · subst e; simp
    · simp [e]
  | true =>
    have : (a : Int) < b := ((isPair_iff x _).1 hp).1
    have h1 : decide (a ≤ b) = true := by simp; omega
    simp [h1]
theorem getD_lt {α : Type} (l : List α) (i : Nat) (d : α) (h : i < l.length) : l.getD i d = l[i] := by
  rw [List.getD_eq_getElem?_getD, List.getElem?_eq_getElem h]; rfl
theorem isCircR_eq (x : List (List Acc)) (l : List Sta) : isCircR x l = isCircF x l := by
  rw [Bool.eq_iff_iff]
  unfold isCircR isCircF isCircle
  simp only [Bool.and_eq_true, decide_eq_true_eq, List.all_eq_true, List.any_eq_true, List.mem_range, List.contains_eq_mem, Bool.not_eq_true', decide_eq_false_iff_not]
  constructor
  · rintro ⟨⟨⟨⟨h1, h2⟩, h3⟩, h4⟩, s, h5, h6⟩
    have hin : ∀ s ∈ l, inS x s := by
      intro s hs
      obtain ⟨i, hi, rfl⟩ := List.getElem_of_mem hs
      have := h3 i hi
      unfold okAt at this
      rw [getD_lt _ _ _ hi] at this
      simp only [Bool.and_eq_true, Bool.or_eq_true, decide_eq_true_eq] at this
      obtain ⟨⟨g1, g2⟩, _⟩ := this
      obtain ⟨k1, k2, k3, k4⟩ := (there_iff x _ _).1 g1
      rcases g2 with g2 | g2
      · exact ⟨k1, k2, k3, by omega, by rw [← g2]; exact k4, .inl g2⟩
      · obtain ⟨j1, _, j2, _⟩ := (isPair_iff x _).1 g2
        obtain ⟨_, _, _, j3⟩ := (there_iff x _ _).1 j2
        exact ⟨k1, k2, k3, by omega, j3, .inr g2⟩
    refine ⟨⟨⟨h1, h2⟩, fun s hs => mem_stations_iff.2 (hin s hs)⟩, fun i hi => ?_, s, h5, ?_⟩
    · have g1 := h3 i hi
      have g2 := h4 i hi
      unfold okAt at g1
      unfold cfAt at g2
      unfold circAt
      dsimp only
      rw [g2, Bool.true_and]
      simp only [Bool.and_eq_true, List.all_eq_true, Bool.not_eq_true', decide_eq_false_iff_not] at g1
      rw [Bool.not_eq_true', List.any_eq_false]
      intro u hu
      have := g1.2 u hu
      simpa using this
    · obtain ⟨_, _, _, _, _, g⟩ := hin s h5
      exact g.resolve_left h6
  · rintro ⟨⟨⟨h1, h2⟩, h3⟩, h4, s, h5, h6⟩
    refine ⟨⟨⟨⟨h1, h2⟩, fun i hi => ?_⟩, fun i hi => ?_⟩, s, h5, ?_⟩
    · have g1 := h4 i hi
      unfold circAt at g1
      dsimp only at g1
      rw [Bool.and_eq_true, Bool.not_eq_true', List.any_eq_false] at g1
      obtain ⟨k1, k2, k3, k4, k5, k6⟩ := mem_stations_iff.1 (h3 _ (List.getElem_mem hi))
      unfold okAt
      rw [getD_lt _ _ _ hi] at *
      simp only [Bool.and_eq_true, Bool.or_eq_true, decide_eq_true_eq, List.all_eq_true, Bool.not_eq_true', decide_eq_false_iff_not]
      refine ⟨⟨(there_iff x _ _).2 ⟨k1, k2, k3, ?_⟩, k6⟩, fun r hr => ?_⟩
      · unfold rl; omega
      · have := g1.2 r hr; simpa using this
    · have g1 := h4 i hi
      unfold circAt at g1
      dsimp only at g1
      rw [Bool.and_eq_true] at g1
      exact g1.1
    · have := ((isPair_iff x _).1 h6).1
      omega
theorem isCircF_mem {x : List (List Acc)} {l : List Sta} (h1 : 2 ≤ l.length) (h2 : l.length ≤ 3) (h : ∀ s ∈ l, s ∈ stations x) : isCircF x l = isCircle x l := by
  unfold isCircF
  have : (l.all fun s => (stations x).contains s) = true := by
    rw [List.all_eq_true]; intro s hs; rw [List.contains_eq_mem, decide_eq_true_eq]; exact h s hs
  rw [this]; simp [h1, h2]
theorem circlesR_eq (x : List (List Acc)) : circlesR x = circles x := by
  unfold circlesR circles
  rw [stationsR_eq]
  have hmem : ∀ s ∈ stations x, s ∈ stations x := fun _ h => h
  obtain ⟨all, hall⟩ : ∃ l, stations x = l := ⟨_, rfl⟩
  rw [hall] at hmem ⊢
  have h3 : circFrom x all 3 [] = all.flatMap fun s => circFrom x all 2 [s] := by
    conv => lhs; unfold circFrom
    simp [circHere, nextOk]
  have h2 : ∀ s, circFrom x all 2 [s] = all.flatMap fun q => if conflict x s.1 s.2.2 q.1 q.2.1 then circFrom x all 1 [s, q] else [] := fun s => by
    conv => lhs; unfold circFrom
    simp [circHere, nextOk, lastOf]
  have h1 : ∀ s q, circFrom x all 1 [s, q] = (if isCircle x [s, q] then [[s, q]] else []) ++ all.flatMap fun r => if conflict x q.1 q.2.2 r.1 r.2.1 then (if isCircle x [s, q, r] then [[s, q, r]] else []) else [] := fun s q => by
    conv => lhs; unfold circFrom
    simp [circHere, nextOk, lastOf, circFrom]
  rw [h3]
  refine flatMap_congr' fun s hs => ?_
  rw [h2]
  refine flatMap_congr' fun q hq => ?_
  unfold circ2R
  rw [isCircR_eq, isCircF_mem (by simp) (by simp) (by rw [hall]; intro u hu; simp at hu; rcases hu with rfl | rfl <;> assumption)]
  have e3 : all.flatMap (circ3R x s q) = all.flatMap fun r => if isCircle x [s, q, r] then [[s, q, r]] else [] := by
    refine flatMap_congr' fun r hr => ?_
    unfold circ3R
    rw [isCircR_eq, isCircF_mem (by simp) (by simp) (by rw [hall]; intro u hu; simp at hu; rcases hu with rfl | rfl | rfl <;> assumption)]
  rw [e3]
  cases hc : conflict x s.1 s.2.2 q.1 q.2.1 with
  | false => simp
  | true =>
    simp only [Bool.not_true, Bool.or_false, decide_eq_true_eq, if_true]
    have e4 : (all.flatMap fun r => if conflict x q.1 q.2.2 r.1 r.2.1 then (if isCircle x [s, q, r] then [[s, q, r]] else []) else []) = all.flatMap fun r => if isCircle x [s, q, r] then [[s, q, r]] else [] := by
      refine flatMap_congr' fun r hr => ?_
      rw [circ3]
      cases conflict x q.1 q.2.2 r.1 r.2.1 <;> simp
    rw [h1, e4]
    by_cases e : s.1 = q.1
    · rw [if_pos e, circ2]
      simp only [circ3, e, decide_true, Bool.not_true, Bool.and_false, Bool.false_and, Bool.false_eq_true, if_false]
      simp
    · rw [if_neg e]
theorem neededR_eq (x : List (List Acc)) : neededR x = neededL x := by
  unfold neededR neededL pairsL
  rw [stationsR_eq, circlesR_eq, List.filter_filter]
  apply List.filter_congr
  intro s hs
  obtain ⟨_, _, _, _, _, h6⟩ := mem_stations_iff.1 hs
  rw [Bool.eq_iff_iff]
  unfold inCircle inL
  simp only [Bool.and_eq_true, decide_eq_true_eq, List.any_eq_true, List.contains_eq_mem, List.mem_flatten]
  constructor
  · rintro ⟨l, hl, u, hu, rfl, hlt⟩
    exact ⟨⟨l, hl, hu⟩, h6.resolve_left (by omega)⟩
  · rintro ⟨⟨l, hl, hu⟩, hp⟩
    exact ⟨l, hl, s, hu, rfl, ((isPair_iff x _).1 hp).1⟩
end Go.Am

set_option maxRecDepth 100000
set_option linter.unusedVariables false
set_option linter.unusedSimpArgs false
namespace Go.Am
open Go Go.Proofs

theorem costR_ok (c : List (List Int)) (l : List Fen) (hc : ∀ r ∈ c, ∀ n ∈ r, 0 ≤ n ∧ n ≤ 9) (hl : l.length ≤ 1000000000) (hin : ∀ f ∈ l, inCost c f) : ACall P 95 [.d (dCost c), .d (.list 2 (l.map dFen))] [] (AI (costF c l)) [] := by
  unfold dCost
  obtain ⟨C, hC⟩ : ∃ X, c.map dRow = X := ⟨_, rfl⟩
  obtain ⟨L, hL⟩ : ∃ X, l.map dFen = X := ⟨_, rfl⟩
  obtain ⟨n, hn⟩ : ∃ n : Int, (L.length : Int) = n := ⟨_, rfl⟩
  have hln : (l.length : Int) = n := by rw [← hn, ← hL]; simp
  rw [hC, hL]
  refine ACall.enter hT (fn := Try.f95) Try.func95 rfl (by decide) (by simp [Try.f95]) rfl rfl rfl rfl (Nat.le_refl _) ?_
  repeat refine AWp.seq ?_
  refine AWp.reg1 {} hT (fun A hA => by cbv) (Nat.zero_le _) ?_
  try dsimp only [AExit.then, AExit.block]
  repeat refine AWp.seq ?_
  refine AWp.reg1 {} hT (fun A hA => by cbv) (Nat.zero_le _) ?_
  try dsimp only [AExit.then, AExit.block]
  repeat refine AWp.seq ?_
  refine AWp.reg1 {} hT (fun A hA => by
      have f0 := ar_len hA L n hn
      repeat (cbv; simp only [f0])
      cbv) (Nat.zero_le _) ?_
  try dsimp only [AExit.then, AExit.block]
  refine AWp.block (AWp.loopInv (ι := Int × Int) (fun p => 0 ≤ p.1 ∧ p.1 ≤ n ∧ p.2 = costF c (l.take p.1.toNat) ∧ 0 ≤ p.2 ∧ p.2 ≤ p.1 * 9) (fun p => (n - p.1).toNat) [0, 5, 8, 9, 10]
    (fun p => { env := [(0, .d (.list 1 C)), (5, AI p.2), (8, .d (.list 2 L)), (9, AI n), (10, AI p.1)], heap := [], n := 27 }) (0, 0) (by cbv) ⟨Int.le_refl _, by dsimp only; omega, by simp [costF], by simp, by simp⟩ ?_)
  rintro ⟨z, s⟩ ⟨h0, h1, h2, h3, h4⟩
  dsimp only at *
  by_cases hz : z < n
  · obtain ⟨⟨t, g⟩, hf⟩ : ∃ s, l[z.toNat]? = some s := ⟨_, List.getElem?_eq_getElem (by omega)⟩
    have hLz : L[z.toNat]? = some (.agg [I t, I g]) := by rw [← hL, List.getElem?_map, hf]; rfl
    obtain ⟨q0, q1, r, hr, hg⟩ := hin _ (List.mem_of_getElem? hf)
    dsimp only at q0 q1 hr hg
    obtain ⟨R, hR⟩ : ∃ R, r.map I = R := ⟨_, rfl⟩
    have hCt : C[t.toNat]? = some (.list 1 R) := by rw [← hC, List.getElem?_map, hr, ← hR]; rfl
    obtain ⟨v, hv⟩ : ∃ v, r[g.toNat]? = some v := ⟨_, List.getElem?_eq_getElem hg⟩
    have hRg : R[g.toNat]? = some (I v) := by rw [← hR, List.getElem?_map, hv]; rfl
    have hv9 := hc r (List.mem_of_getElem? hr) v (List.mem_of_getElem? hv)
    have hstep := costF_step c l z.toNat (t, g) hf
    have hpv : priceF c (t, g) = v := by
      unfold priceF
      rw [List.getD_eq_getElem?_getD, List.getD_eq_getElem?_getD, hr]
      simp only [Option.getD_some, hv]
    obtain ⟨z1, hz1⟩ : ∃ z1, z + 1 = z1 := ⟨_, rfl⟩
    obtain ⟨s1, hs1⟩ : ∃ z1, s + v = z1 := ⟨_, rfl⟩
    rw [hpv, ← h2, hs1, show z.toNat + 1 = z1.toNat by omega] at hstep
    repeat refine AWp.seq ?_
    refine AWp.reg1 {} hT (fun A hA => by
        have f0 := ar_lt hA hz
        repeat (cbv; simp only [f0])
        cbv) (Nat.zero_le _) ?_
    try dsimp only [AExit.then, AExit.block]
    repeat refine AWp.seq ?_
    refine AWp.cond (b := true) rfl (AWp.skip ?_)
    try dsimp only [AExit.then, AExit.block]
    repeat refine AWp.seq ?_
    refine AWp.block ?_
    repeat refine AWp.seq ?_
    refine AWp.reg1 {} hT (fun A hA => by
        have f0 := ar_get hA hLz
        have f1 := ar_le hA h0
        repeat (cbv; simp only [f0, f1])
        cbv) (Nat.zero_le _) ?_
    try dsimp only [AExit.then, AExit.block]
    repeat refine AWp.seq ?_
    refine AWp.reg1D {} hT rfl (fun A hA => by
        have f0 := ar_get hA hCt
        have f1 := ar_le hA q0
        have f2 := ar_get hA hRg
        have f3 := ar_le hA q1
        have f4 := ar_add hA s v s1 hs1 (by omega) (by omega)
        repeat (cbv; simp only [f0, f1, f2, f3, f4])
        cbv) (by kernel_rfl) (Nat.zero_le _) ?_
    try dsimp only [AExit.then, AExit.block]
    repeat refine AWp.seq ?_
    refine AWp.reg1 {} hT (fun A hA => by
        have f0 := ar_add hA z 1 z1 hz1 (by omega) (by omega)
        repeat (cbv; simp only [f0])
        cbv) (Nat.zero_le _) ?_
    try dsimp only [AExit.then, AExit.block]
    exact ⟨(z1, s1), ⟨by dsimp only; omega, by dsimp only; omega, hstep.symm, by dsimp only; omega, by dsimp only; omega⟩, by dsimp only; omega, by cbv⟩
  · rw [List.take_of_length_le (by omega)] at h2
    subst h2
    obtain ⟨S, hS⟩ : ∃ S, costF c l = S := ⟨_, rfl⟩
    rw [hS]
    repeat refine AWp.seq ?_
    refine AWp.reg1 {} hT (fun A hA => by
        have f0 := ar_nlt hA hz
        repeat (cbv; simp only [f0])
        cbv) (Nat.zero_le _) ?_
    try dsimp only [AExit.then, AExit.block]
    repeat refine AWp.seq ?_
    refine AWp.cond (b := false) rfl (AWp.exit ?_)
    try dsimp only [AExit.then, AExit.block]
    rw [if_pos rfl]
    repeat refine AWp.seq ?_
    refine AWp.reg1 {} hT (fun A hA => by cbv) (Nat.zero_le _) ?_
    try dsimp only [AExit.then, AExit.block]
    repeat refine AWp.seq ?_
    refine AWp.ret ⟨?_, rfl, rfl, Nat.zero_le _, _, rfl⟩
    rfl

theorem mem_fencesL {x : List (List Acc)} {f : Fen} : f ∈ fencesL x ↔ 0 ≤ f.1 ∧ f.1 < (x.length : Int) ∧ 0 ≤ f.2 ∧ f.2 < rl x f.1 - 1 := by
  unfold fencesL fenT fenRow rl
  simp only [List.mem_flatMap, List.mem_range, List.mem_map]
  constructor
  · rintro ⟨t, ht, g, hg, rfl⟩
    refine ⟨by simp, by simp; omega, by simp, ?_⟩
    simp only [Int.toNat_natCast]
    omega
  · obtain ⟨t, g⟩ := f
    rintro ⟨h1, h2, h3, h4⟩
    dsimp only at *
    exact ⟨t.toNat, by omega, g.toNat, by omega, by simp; omega⟩
theorem fencesB_mem {x : List (List Acc)} {l : List Fen} (h : fencesB x l = true) : ∀ f ∈ l, f ∈ fencesL x := by
  intro f hf
  unfold fencesB at h
  rw [List.all_eq_true] at h
  obtain ⟨i, hi, rfl⟩ := List.getElem_of_mem hf
  have := h i (by simpa using hi)
  unfold fenAt at this
  rw [Bool.and_eq_true, List.contains_eq_mem, decide_eq_true_eq, getD_lt _ _ _ hi] at this
  exact this.1
theorem priced_row {x : List (List Acc)} {c : List (List Int)} (h : pricedB x c = true) : c.length = x.length ∧ ∀ t r, c[t]? = some r → r.length = (x.getD t []).length - 1 ∧ ∀ n ∈ r, 1 ≤ n ∧ n ≤ 9 := by
  unfold pricedB at h
  rw [Bool.and_eq_true, List.all_eq_true, decide_eq_true_eq] at h
  refine ⟨h.2, fun t r hr => ?_⟩
  have ht := (List.getElem?_eq_some_iff.1 hr).1
  have := h.1 t (by simpa using ht)
  unfold prAt in19 at this
  rw [List.getD_eq_getElem?_getD (l := c), hr] at this
  simp only [Option.getD_some, Bool.and_eq_true, decide_eq_true_eq, List.all_eq_true] at this
  exact ⟨this.1.2, this.2⟩
theorem inCost_of {x : List (List Acc)} {c : List (List Int)} {f : Fen} (hp : pricedB x c = true) (hf : f ∈ fencesL x) : inCost c f := by
  obtain ⟨h1, h2, h3, h4⟩ := mem_fencesL.1 hf
  obtain ⟨g1, g2⟩ := priced_row hp
  refine ⟨h1, h3, c[f.1.toNat]'(by omega), List.getElem?_eq_getElem _, ?_⟩
  rw [(g2 _ _ (List.getElem?_eq_getElem (by omega))).1]
  unfold rl at h4
  omega
theorem priced_09 {x : List (List Acc)} {c : List (List Int)} (hp : pricedB x c = true) : ∀ r ∈ c, ∀ n ∈ r, 0 ≤ n ∧ n ≤ 9 := by
  intro r hr n hn
  obtain ⟨i, hi, rfl⟩ := List.getElem_of_mem hr
  have := ((priced_row hp).2 i _ (List.getElem?_eq_getElem hi)).2 n hn
  omega

/-- What the cost is, and the errno. -/
def costT (x : List (List Acc)) (c : List (List Int)) (l : List Fen) : Int × Int := if (fencedT x l).2 = 0 then (if pricedB x c then (costF c l, 0) else (0, 2)) else (0, (fencedT x l).2)
theorem fencedT_ok {x : List (List Acc)} {l : List Fen} (h : (fencedT x l).2 = 0) : valid x = true ∧ fencesB x l = true ∧ (fencedT x l).1 = l := by
  unfold fencedT at h ⊢
  split at h
  · rename_i hv
    rw [if_pos hv]
    split at h
    · rename_i hF; rw [if_pos hF]; exact ⟨hv, hF, rfl⟩
    · simp at h
  · simp at h
theorem Cost_ok (x : List (List Acc)) (c : List (List Int)) (l : List Fen) (hx : Big x) (hc : c.length ≤ 1000000000) (hcr : ∀ r ∈ c, r.length ≤ 9223372036854775807) (hl : l.length ≤ 1000000000) :
    ACall P 42 [.d (dX x), .d (dCost c), .d (.list 2 (l.map dFen))] [] (.tuple [AI (costT x c l).1, AI (costT x c l).2]) [] := by
  have cf := fenced_ok x l hx hl
  have hval : (fencedT x l).2 = 0 → _ := fencedT_ok
  unfold costT
  obtain ⟨⟨out, e⟩, hT'⟩ : ∃ t, fencedT x l = t := ⟨_, rfl⟩
  rw [hT'] at cf hval ⊢
  dsimp only at cf hval ⊢
  by_cases he : e = 0
  · obtain ⟨hv, hFl, rfl⟩ := hval he
    have hx' := valid_small hv
    rw [if_pos he]
    subst he
    have cp := priced_ok x c hx' hc hcr
    cases hp : pricedB x c with
    | false =>
      rw [hp] at cp
      simp only [Bool.false_eq_true, if_false]
      obtain ⟨X, hX⟩ : ∃ X, dX x = X := ⟨_, rfl⟩
      obtain ⟨L, hL⟩ : ∃ X, out.map dFen = X := ⟨_, rfl⟩
      obtain ⟨C, hC⟩ : ∃ X, dCost c = X := ⟨_, rfl⟩
      rw [hX] at cf cp ⊢
      rw [hL] at cf ⊢
      rw [hC] at cp ⊢
      refine ACall.enter hT (fn := Try.f42) Try.func42 rfl (by decide) (by simp [Try.f42]) rfl rfl rfl rfl (Nat.le_refl _) ?_
      repeat refine AWp.seq ?_
      refine AWp.reg1 {} hT (fun A hA => by cbv) (Nat.zero_le _) ?_
      try dsimp only [AExit.then, AExit.block]
      repeat refine AWp.seq ?_
      refine AWp.region ?_
      refine AOps.stepCall hT (an := {}) (fun A hA => by cbv) (Nat.zero_le _) rfl (.inr rfl) rfl rfl rfl (Nat.le_of_ble_eq_true rfl) rfl rfl (cf) ?_
      refine AOps.done hT (an := {}) (fun A hA => by cbv) (Nat.zero_le _) ?_
      try dsimp only [AExit.then, AExit.block]
      repeat refine AWp.seq ?_
      refine AWp.region ?_
      refine AOps.stepCall hT (an := {}) (fun A hA => by
          have f0 := ar_eq hA (rfl : (0 : Int) = 0)
          repeat (cbv; simp only [f0])
          cbv) (Nat.zero_le _) rfl (.inr rfl) rfl rfl rfl (Nat.le_of_ble_eq_true rfl) rfl rfl (cp) ?_
      refine AOps.done hT (an := {}) (fun A hA => by cbv) (Nat.zero_le _) ?_
      try dsimp only [AExit.then, AExit.block]
      repeat refine AWp.seq ?_
      refine AWp.cond (b := true) rfl ?_
      rw [if_pos rfl]
      repeat refine AWp.seq ?_
      refine AWp.reg1 {} hT (fun A hA => by cbv) (Nat.zero_le _) ?_
      try dsimp only [AExit.then, AExit.block]
      repeat refine AWp.seq ?_
      refine AWp.reg1 {} hT (fun A hA => by
          have f0 := ar_ne hA (show ¬ (2 : Int) = 0 by omega)
          repeat (cbv; simp only [f0])
          cbv) (Nat.zero_le _) ?_
      try dsimp only [AExit.then, AExit.block]
      repeat refine AWp.seq ?_
      refine AWp.cond (b := true) rfl ?_
      rw [if_pos rfl]
      repeat refine AWp.seq ?_
      refine AWp.reg1 {} hT (fun A hA => by cbv) (Nat.zero_le _) ?_
      try dsimp only [AExit.then, AExit.block]
      repeat refine AWp.seq ?_
      refine AWp.ret ⟨?_, rfl, rfl, Nat.zero_le _, _, rfl⟩
      rfl
    | true =>
      rw [hp] at cp
      simp only [if_true]
      have cc := cost_ok c out (priced_09 hp) hl (fun f hf => inCost_of hp (fencesB_mem hFl f hf))
      obtain ⟨S, hS⟩ : ∃ S, costF c out = S := ⟨_, rfl⟩
      obtain ⟨X, hX⟩ : ∃ X, dX x = X := ⟨_, rfl⟩
      obtain ⟨L, hL⟩ : ∃ X, out.map dFen = X := ⟨_, rfl⟩
      obtain ⟨C, hC⟩ : ∃ X, dCost c = X := ⟨_, rfl⟩
      rw [hX] at cf cp ⊢
      rw [hL] at cf cc ⊢
      rw [hC] at cp cc ⊢
      rw [hS] at cc ⊢
      refine ACall.enter hT (fn := Try.f42) Try.func42 rfl (by decide) (by simp [Try.f42]) rfl rfl rfl rfl (Nat.le_refl _) ?_
      repeat refine AWp.seq ?_
      refine AWp.reg1 {} hT (fun A hA => by cbv) (Nat.zero_le _) ?_
      try dsimp only [AExit.then, AExit.block]
      repeat refine AWp.seq ?_
      refine AWp.region ?_
      refine AOps.stepCall hT (an := {}) (fun A hA => by cbv) (Nat.zero_le _) rfl (.inr rfl) rfl rfl rfl (Nat.le_of_ble_eq_true rfl) rfl rfl (cf) ?_
      refine AOps.done hT (an := {}) (fun A hA => by cbv) (Nat.zero_le _) ?_
      try dsimp only [AExit.then, AExit.block]
      repeat refine AWp.seq ?_
      refine AWp.region ?_
      refine AOps.stepCall hT (an := {}) (fun A hA => by
          have f0 := ar_eq hA (rfl : (0 : Int) = 0)
          repeat (cbv; simp only [f0])
          cbv) (Nat.zero_le _) rfl (.inr rfl) rfl rfl rfl (Nat.le_of_ble_eq_true rfl) rfl rfl (cp) ?_
      refine AOps.done hT (an := {}) (fun A hA => by cbv) (Nat.zero_le _) ?_
      try dsimp only [AExit.then, AExit.block]
      repeat refine AWp.seq ?_
      refine AWp.cond (b := false) rfl (AWp.skip ?_)
      try dsimp only [AExit.then, AExit.block]
      repeat refine AWp.seq ?_
      refine AWp.reg1 {} hT (fun A hA => by
          have f0 := ar_eq hA (rfl : (0 : Int) = 0)
          repeat (cbv; simp only [f0])
          cbv) (Nat.zero_le _) ?_
      try dsimp only [AExit.then, AExit.block]
      repeat refine AWp.seq ?_
      refine AWp.cond (b := false) rfl (AWp.skip ?_)
      try dsimp only [AExit.then, AExit.block]
      repeat refine AWp.seq ?_
      refine AWp.region ?_
      refine AOps.stepCall hT (an := {}) (fun A hA => by cbv) (Nat.zero_le _) rfl (.inr rfl) rfl rfl rfl (Nat.le_of_ble_eq_true rfl) rfl rfl (cc) ?_
      refine AOps.done hT (an := {}) (fun A hA => by cbv) (Nat.zero_le _) ?_
      try dsimp only [AExit.then, AExit.block]
      repeat refine AWp.seq ?_
      refine AWp.ret ⟨?_, rfl, rfl, Nat.zero_le _, _, rfl⟩
      rfl
  · rw [if_neg he]
    obtain ⟨X, hX⟩ : ∃ X, dX x = X := ⟨_, rfl⟩
    rw [hX] at cf ⊢
    obtain ⟨L, hL⟩ : ∃ X, out.map dFen = X := ⟨_, rfl⟩
    obtain ⟨L', hL'⟩ : ∃ X, l.map dFen = X := ⟨_, rfl⟩
    obtain ⟨C, hC⟩ : ∃ X, dCost c = X := ⟨_, rfl⟩
    rw [hL, hL'] at cf
    rw [hL', hC]
    refine ACall.enter hT (fn := Try.f42) Try.func42 rfl (by decide) (by simp [Try.f42]) rfl rfl rfl rfl (Nat.le_refl _) ?_
    repeat refine AWp.seq ?_
    refine AWp.reg1 {} hT (fun A hA => by cbv) (Nat.zero_le _) ?_
    try dsimp only [AExit.then, AExit.block]
    repeat refine AWp.seq ?_
    refine AWp.region ?_
    refine AOps.stepCall hT (an := {}) (fun A hA => by cbv) (Nat.zero_le _) rfl (.inr rfl) rfl rfl rfl (Nat.le_of_ble_eq_true rfl) rfl rfl (cf) ?_
    refine AOps.done hT (an := {}) (fun A hA => by cbv) (Nat.zero_le _) ?_
    try dsimp only [AExit.then, AExit.block]
    repeat refine AWp.seq ?_
    refine AWp.reg1 {} hT (fun A hA => by
        have f0 := ar_ne hA he
        repeat (cbv; simp only [f0])
        cbv) (Nat.zero_le _) ?_
    try dsimp only [AExit.then, AExit.block]
    repeat refine AWp.seq ?_
    refine AWp.cond (b := false) rfl (AWp.skip ?_)
    try dsimp only [AExit.then, AExit.block]
    repeat refine AWp.seq ?_
    refine AWp.reg1 {} hT (fun A hA => by
        have f0 := ar_ne hA he
        repeat (cbv; simp only [f0])
        cbv) (Nat.zero_le _) ?_
    try dsimp only [AExit.then, AExit.block]
    repeat refine AWp.seq ?_
    refine AWp.cond (b := true) rfl ?_
    rw [if_pos rfl]
    repeat refine AWp.seq ?_
    refine AWp.reg1 {} hT (fun A hA => by cbv) (Nat.zero_le _) ?_
    try dsimp only [AExit.then, AExit.block]
    repeat refine AWp.seq ?_
    refine AWp.ret ⟨?_, rfl, rfl, Nat.zero_le _, _, rfl⟩
    rfl

/-! The document's fences. -/
def fenBody (x : List (List Acc)) (f p : Fen) (first : Bool) : Bool := there x f.1 f.2 && !decide (f.2 = rl x f.1 - 1) && (first || !(decide (f.1 < p.1) || (decide (f.1 = p.1) && decide (f.2 ≤ p.2))))
def fenRAt (x : List (List Acc)) (l : List Fen) (i : Nat) : Bool := fenBody x (l.getD i (0, 0)) (l.getD (i - 1) (0, 0)) (decide (i = 0))
theorem fenRAt_eq (x : List (List Acc)) (l : List Fen) (i : Nat) : fenRAt x l i = fenAt x l i := by
  unfold fenRAt fenAt
  obtain ⟨⟨t, g⟩, hf⟩ : ∃ f, l.getD i (0, 0) = f := ⟨_, rfl⟩
  obtain ⟨⟨u, h⟩, hp⟩ : ∃ f, l.getD (i - 1) (0, 0) = f := ⟨_, rfl⟩
  simp only [hf, hp]
  unfold fenBody
  dsimp only
  congr 1
  · rw [Bool.eq_iff_iff]
    simp only [Bool.and_eq_true, Bool.not_eq_true', decide_eq_false_iff_not, List.contains_eq_mem, decide_eq_true_eq]
    rw [there_iff, mem_fencesL]
    simp only
    omega
  · congr 2
    rw [Bool.eq_iff_iff]
    unfold cmpF cmpI
    simp only [Bool.or_eq_true, Bool.and_eq_true, decide_eq_true_eq]
    by_cases h1 : u < t
    · simp [h1]; omega
    · by_cases h2 : t < u
      · simp [h1, h2]
      · obtain rfl : t = u := by omega
        simp
        split
        · omega
        · split <;> omega
theorem areFences_ok (x : List (List Acc)) (l : List Fen) (hx : Small x) (hl : l.length ≤ 1000000000) : ACall P 125 [.d (dX x), .d (.list 2 (l.map dFen))] [] (AB (fencesB x l)) [] := by
  have cacc := fun t a => isAccess_ok x t a hx
  have hth := fun (t a : Int) (h : there x t a = true) => there_at h
  have hrl : ∀ (t a : Int) L', there x t a = true → (x.map dAccs)[t.toNat]? = some (.list 2 L') → (L'.length : Int) = rl x t ∧ rl x t ≤ 1000 ∧ 1 ≤ rl x t := by
    intro t a L' h h2
    obtain ⟨k1, k2, k3, k4⟩ := (there_iff x t a).1 h
    rw [List.getElem?_map, List.getElem?_eq_getElem (by omega)] at h2
    simp only [Option.map_some, Option.some.injEq] at h2
    unfold dAccs at h2
    injection h2 with _ h2
    have hs := hx.2 x[t.toNat] (List.getElem_mem _)
    have e : rl x t = (x[t.toNat].length : Int) := by unfold rl; rw [List.getD_eq_getElem?_getD, List.getElem?_eq_getElem (by omega)]; rfl
    refine ⟨by rw [← h2, e]; simp, by omega, by omega⟩
  have hat : ∀ i, fenAt x l i = fenBody x (l.getD i (0, 0)) (l.getD (i - 1) (0, 0)) (decide (i = 0)) := fun i => (fenRAt_eq x l i).symm
  have hbody : ∀ t g u h b, fenBody x (t, g) (u, h) b = (there x t g && !decide (g = rl x t - 1) && (b || !(decide (t < u) || (decide (t = u) && decide (g ≤ h))))) := fun _ _ _ _ _ => rfl
  obtain ⟨F, hF⟩ : ∃ F, fencesB x l = F := ⟨_, rfl⟩
  rw [hF]
  unfold fencesB at hF
  obtain ⟨at_, hat'⟩ : ∃ f, fenAt x l = f := ⟨_, rfl⟩
  rw [hat'] at hat hF
  unfold dX at *
  obtain ⟨X, hX⟩ : ∃ X, x.map dAccs = X := ⟨_, rfl⟩
  obtain ⟨L, hL⟩ : ∃ X, l.map dFen = X := ⟨_, rfl⟩
  obtain ⟨n, hn⟩ : ∃ n : Int, (L.length : Int) = n := ⟨_, rfl⟩
  have hln : (l.length : Int) = n := by rw [← hn, ← hL]; simp
  simp only [hX] at cacc hth hrl
  rw [hX, hL]
  have hno : ∀ i, i < l.length → at_ i = false → F = false := fun i hi h => by
    rw [← hF, List.all_eq_false]; exact ⟨i, by simpa using hi, by rw [h]; decide⟩
  refine ACall.enter hT (fn := Try.f125) Try.func125 rfl (by decide) (by simp [Try.f125]) rfl rfl rfl rfl (Nat.le_refl _) ?_
  repeat refine AWp.seq ?_
  refine AWp.reg1 {} hT (fun A hA => by cbv) (Nat.zero_le _) ?_
  try dsimp only [AExit.then, AExit.block]
  repeat refine AWp.seq ?_
  refine AWp.reg1 {} hT (fun A hA => by
      have f0 := ar_len hA L n hn
      repeat (cbv; simp only [f0])
      cbv) (Nat.zero_le _) ?_
  try dsimp only [AExit.then, AExit.block]
  refine AWp.block (AWp.loopInv (ι := Int) (fun z => 0 ≤ z ∧ z ≤ n ∧ ∀ i, i < z.toNat → at_ i = true) (fun z => (n - z).toNat) [0, 1, 7, 8, 9]
    (fun z => { env := [(0, .d (.list 1 X)), (1, .d (.list 2 L)), (7, .d (.list 2 L)), (8, AI n), (9, AI z)], heap := [], n := 69 }) 0 (by cbv) ⟨Int.le_refl _, by omega, by simp⟩ ?_)
  rintro z ⟨h0, h1, h3⟩
  by_cases hz : z < n
  · obtain ⟨⟨t, g⟩, hs⟩ : ∃ s, l[z.toNat]? = some s := ⟨_, List.getElem?_eq_getElem (by omega)⟩
    have hLz : L[z.toNat]? = some (.agg [I t, I g]) := by rw [← hL, List.getElem?_map, hs]; rfl
    obtain ⟨z1, hz1⟩ : ∃ z1, z + 1 = z1 := ⟨_, rfl⟩
    have hz1n : z1.toNat = z.toNat + 1 := by omega
    have hatz := hat z.toNat
    obtain ⟨⟨u, h⟩, hprev⟩ : ∃ p, l.getD (z.toNat - 1) (0, 0) = p := ⟨_, rfl⟩
    rw [List.getD_eq_getElem?_getD (i := z.toNat), hs, hprev, Option.getD_some, hbody] at hatz
    have c1 := cacc t g
    have hno' := hno z.toNat (by omega)
    repeat refine AWp.seq ?_
    refine AWp.reg1 {} hT (fun A hA => by
        have f0 := ar_lt hA hz
        repeat (cbv; simp only [f0])
        cbv) (Nat.zero_le _) ?_
    try dsimp only [AExit.then, AExit.block]
    repeat refine AWp.seq ?_
    refine AWp.cond (b := true) rfl (AWp.skip ?_)
    try dsimp only [AExit.then, AExit.block]
    repeat refine AWp.seq ?_
    refine AWp.block ?_
    repeat refine AWp.seq ?_
    refine AWp.reg1 {} hT (fun A hA => by
        have f0 := ar_get hA hLz
        have f1 := ar_le hA h0
        repeat (cbv; simp only [f0, f1])
        cbv) (Nat.zero_le _) ?_
    try dsimp only [AExit.then, AExit.block]
    cases hr1 : there x t g with
    | false =>
      rw [hr1] at c1 hatz
      repeat refine AWp.seq ?_
      refine AWp.regionDraw rfl (Nat.zero_le _) ?_
      refine DOps.stepCall hT (an := {}) rfl (fun A hA => by cbv) rfl rfl (Nat.le_of_ble_eq_true rfl) rfl rfl (c1) ?_
      refine DOps.done hT (an := {}) rfl (fun A hA => by cbv) (by kernel_rfl) ?_
      try dsimp only [AExit.then, AExit.block]
      repeat refine AWp.seq ?_
      refine AWp.cond (b := true) rfl ?_
      rw [if_pos rfl]
      repeat refine AWp.seq ?_
      refine AWp.reg1 {} hT (fun A hA => by cbv) (Nat.zero_le _) ?_
      try dsimp only [AExit.then, AExit.block]
      obtain rfl := hno' (by rw [hatz]; rfl)
      repeat refine AWp.seq ?_
      refine AWp.ret ⟨?_, rfl, rfl, Nat.zero_le _, _, rfl⟩
      rfl
    | true =>
      obtain ⟨q0, q1, L', q2, _⟩ := hth t g hr1
      obtain ⟨w1, w2, w3⟩ := hrl t g L' hr1 q2
      rw [hr1] at c1 hatz
      obtain ⟨k, hk⟩ : ∃ k, rl x t = k := ⟨_, rfl⟩
      rw [hk] at w1 w2 w3 hatz
      obtain ⟨k1, hk1⟩ : ∃ q, k - 1 = q := ⟨_, rfl⟩
      rw [hk1] at hatz
      by_cases eg : g = k1
      · rw [decide_eq_true eg] at hatz
        repeat refine AWp.seq ?_
        refine AWp.regionDraw rfl (Nat.zero_le _) ?_
        refine DOps.stepCall hT (an := {}) rfl (fun A hA => by cbv) rfl rfl (Nat.le_of_ble_eq_true rfl) rfl rfl (c1) ?_
        refine DOps.done hT (an := {}) rfl (fun A hA => by
            have f0 := ar_get hA q2
            have f1 := ar_le hA q0
            have f2 := ar_len hA L' k w1
            have f3 := ar_sub hA k 1 k1 hk1 (by omega) (by omega)
            have f4 := ar_eq hA eg
            repeat (cbv; simp only [f0, f1, f2, f3, f4])
            cbv) (by kernel_rfl) ?_
        try dsimp only [AExit.then, AExit.block]
        repeat refine AWp.seq ?_
        refine AWp.cond (b := true) rfl ?_
        rw [if_pos rfl]
        repeat refine AWp.seq ?_
        refine AWp.reg1 {} hT (fun A hA => by cbv) (Nat.zero_le _) ?_
        try dsimp only [AExit.then, AExit.block]
        obtain rfl := hno' (by rw [hatz]; rfl)
        repeat refine AWp.seq ?_
        refine AWp.ret ⟨?_, rfl, rfl, Nat.zero_le _, _, rfl⟩
        rfl
      · rw [decide_eq_false eg] at hatz
        repeat refine AWp.seq ?_
        refine AWp.regionDraw rfl (Nat.zero_le _) ?_
        refine DOps.stepCall hT (an := {}) rfl (fun A hA => by cbv) rfl rfl (Nat.le_of_ble_eq_true rfl) rfl rfl (c1) ?_
        refine DOps.done hT (an := {}) rfl (fun A hA => by
            have f0 := ar_get hA q2
            have f1 := ar_le hA q0
            have f2 := ar_len hA L' k w1
            have f3 := ar_sub hA k 1 k1 hk1 (by omega) (by omega)
            have f4 := ar_ne hA eg
            repeat (cbv; simp only [f0, f1, f2, f3, f4])
            cbv) (by kernel_rfl) ?_
        try dsimp only [AExit.then, AExit.block]
        repeat refine AWp.seq ?_
        refine AWp.cond (b := false) rfl (AWp.skip ?_)
        try dsimp only [AExit.then, AExit.block]
        have hnextok : at_ z.toNat = true → ∀ i, i < z1.toNat → at_ i = true := fun hatt i hi => by
          rcases Nat.lt_or_ge i z.toNat with h | h
          · exact h3 i h
          · rw [show i = z.toNat by omega, hatt]
        by_cases hz0 : 0 < z
        · have hs' : l[(z - 1).toNat]? = some (u, h) := by
            rw [List.getD_eq_getElem?_getD, show z.toNat - 1 = (z - 1).toNat by omega, List.getElem?_eq_getElem (by omega)] at hprev
            rw [List.getElem?_eq_getElem (by omega), ← hprev]; rfl
          obtain ⟨y, hy⟩ : ∃ y, z - 1 = y := ⟨_, rfl⟩
          have hLy : L[y.toNat]? = some (.agg [I u, I h]) := by rw [← hL, List.getElem?_map, ← hy, hs']; rfl
          rw [show decide (z.toNat = 0) = false by simp; omega, Bool.false_or] at hatz
          by_cases e1 : t < u
          · rw [decide_eq_true e1] at hatz
            repeat refine AWp.seq ?_
            refine AWp.reg1D {} hT rfl (fun A hA => by
                have f0 := ar_lt hA hz0
                have f1 := ar_sub hA z 1 y hy (by omega) (by omega)
                have f2 := ar_get hA hLy
                have f3 := ar_le hA (show 0 ≤ y by omega)
                have f4 := ar_lt hA e1
                repeat (cbv; simp only [f0, f1, f2, f3, f4])
                cbv) (by kernel_rfl) (Nat.zero_le _) ?_
            try dsimp only [AExit.then, AExit.block]
            repeat refine AWp.seq ?_
            refine AWp.cond (b := true) rfl ?_
            rw [if_pos rfl]
            repeat refine AWp.seq ?_
            refine AWp.reg1 {} hT (fun A hA => by cbv) (Nat.zero_le _) ?_
            try dsimp only [AExit.then, AExit.block]
            obtain rfl := hno' (by rw [hatz]; rfl)
            repeat refine AWp.seq ?_
            refine AWp.ret ⟨?_, rfl, rfl, Nat.zero_le _, _, rfl⟩
            rfl
          · rw [decide_eq_false e1] at hatz
            by_cases e2 : t = u
            · rw [decide_eq_true e2] at hatz
              by_cases e3 : g ≤ h
              · rw [decide_eq_true e3] at hatz
                repeat refine AWp.seq ?_
                refine AWp.reg1D {} hT rfl (fun A hA => by
                    have f0 := ar_lt hA hz0
                    have f1 := ar_sub hA z 1 y hy (by omega) (by omega)
                    have f2 := ar_get hA hLy
                    have f3 := ar_le hA (show 0 ≤ y by omega)
                    have f4 := ar_nlt hA e1
                    have f5 := ar_eq hA e2
                    have f6 := ar_le hA e3
                    repeat (cbv; simp only [f0, f1, f2, f3, f4, f5, f6])
                    cbv) (by kernel_rfl) (Nat.zero_le _) ?_
                try dsimp only [AExit.then, AExit.block]
                repeat refine AWp.seq ?_
                refine AWp.cond (b := true) rfl ?_
                rw [if_pos rfl]
                repeat refine AWp.seq ?_
                refine AWp.reg1 {} hT (fun A hA => by cbv) (Nat.zero_le _) ?_
                try dsimp only [AExit.then, AExit.block]
                obtain rfl := hno' (by rw [hatz]; rfl)
                repeat refine AWp.seq ?_
                refine AWp.ret ⟨?_, rfl, rfl, Nat.zero_le _, _, rfl⟩
                rfl
              · rw [decide_eq_false e3] at hatz
                repeat refine AWp.seq ?_
                refine AWp.reg1D {} hT rfl (fun A hA => by
                    have f0 := ar_lt hA hz0
                    have f1 := ar_sub hA z 1 y hy (by omega) (by omega)
                    have f2 := ar_get hA hLy
                    have f3 := ar_le hA (show 0 ≤ y by omega)
                    have f4 := ar_nlt hA e1
                    have f5 := ar_eq hA e2
                    have f6 := ar_nle hA e3
                    repeat (cbv; simp only [f0, f1, f2, f3, f4, f5, f6])
                    cbv) (by kernel_rfl) (Nat.zero_le _) ?_
                try dsimp only [AExit.then, AExit.block]
                repeat refine AWp.seq ?_
                refine AWp.cond (b := false) rfl (AWp.skip ?_)
                try dsimp only [AExit.then, AExit.block]
                repeat refine AWp.seq ?_
                refine AWp.reg1 {} hT (fun A hA => by
                    have f0 := ar_add hA z 1 z1 hz1 (by omega) (by omega)
                    repeat (cbv; simp only [f0])
                    cbv) (Nat.zero_le _) ?_
                try dsimp only [AExit.then, AExit.block]
                exact ⟨z1, ⟨by omega, by omega, hnextok (by rw [hatz]; rfl)⟩, by omega, by cbv⟩
            · rw [decide_eq_false e2] at hatz
              repeat refine AWp.seq ?_
              refine AWp.reg1D {} hT rfl (fun A hA => by
                  have f0 := ar_lt hA hz0
                  have f1 := ar_sub hA z 1 y hy (by omega) (by omega)
                  have f2 := ar_get hA hLy
                  have f3 := ar_le hA (show 0 ≤ y by omega)
                  have f4 := ar_nlt hA e1
                  have f5 := ar_ne hA e2
                  repeat (cbv; simp only [f0, f1, f2, f3, f4, f5])
                  cbv) (by kernel_rfl) (Nat.zero_le _) ?_
              try dsimp only [AExit.then, AExit.block]
              repeat refine AWp.seq ?_
              refine AWp.cond (b := false) rfl (AWp.skip ?_)
              try dsimp only [AExit.then, AExit.block]
              repeat refine AWp.seq ?_
              refine AWp.reg1 {} hT (fun A hA => by
                  have f0 := ar_add hA z 1 z1 hz1 (by omega) (by omega)
                  repeat (cbv; simp only [f0])
                  cbv) (Nat.zero_le _) ?_
              try dsimp only [AExit.then, AExit.block]
              exact ⟨z1, ⟨by omega, by omega, hnextok (by rw [hatz]; rfl)⟩, by omega, by cbv⟩
        · rw [show decide (z.toNat = 0) = true by simp; omega] at hatz
          repeat refine AWp.seq ?_
          refine AWp.reg1D {} hT rfl (fun A hA => by
              have f0 := ar_nlt hA hz0
              repeat (cbv; simp only [f0])
              cbv) (by kernel_rfl) (Nat.zero_le _) ?_
          try dsimp only [AExit.then, AExit.block]
          repeat refine AWp.seq ?_
          refine AWp.cond (b := false) rfl (AWp.skip ?_)
          try dsimp only [AExit.then, AExit.block]
          repeat refine AWp.seq ?_
          refine AWp.reg1 {} hT (fun A hA => by
              have f0 := ar_add hA z 1 z1 hz1 (by omega) (by omega)
              repeat (cbv; simp only [f0])
              cbv) (Nat.zero_le _) ?_
          try dsimp only [AExit.then, AExit.block]
          exact ⟨z1, ⟨by omega, by omega, hnextok (by rw [hatz]; rfl)⟩, by omega, by cbv⟩
  · have hFt : F = true := by
      rw [← hF, List.all_eq_true]
      exact fun i hi => h3 i (by have := List.mem_range.1 hi; omega)
    subst hFt
    repeat refine AWp.seq ?_
    refine AWp.reg1 {} hT (fun A hA => by
        have f0 := ar_nlt hA hz
        repeat (cbv; simp only [f0])
        cbv) (Nat.zero_le _) ?_
    try dsimp only [AExit.then, AExit.block]
    repeat refine AWp.seq ?_
    refine AWp.cond (b := false) rfl (AWp.exit ?_)
    try dsimp only [AExit.then, AExit.block]
    rw [if_pos rfl]
    repeat refine AWp.seq ?_
    refine AWp.reg1 {} hT (fun A hA => by cbv) (Nat.zero_le _) ?_
    try dsimp only [AExit.then, AExit.block]
    repeat refine AWp.seq ?_
    refine AWp.ret ⟨?_, rfl, rfl, Nat.zero_le _, _, rfl⟩
    rfl
end Go.Am
