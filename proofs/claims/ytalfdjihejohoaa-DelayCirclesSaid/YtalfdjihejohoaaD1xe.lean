/- Own text: D1xc, D1v, D1xd, D1xe. -/
import Derived.Test.YtalfdjihejohoaaD1xb
import Derived.Test.YtalfdjihejohoaaD1ta
set_option maxRecDepth 100000
set_option linter.unusedVariables false
set_option linter.unusedSimpArgs false
namespace Go.Am
open Go Go.Proofs

def inL (s u : Sta) : Bool := decide (u = s) && decide (s.2.1 < s.2.2)
def neededR (x : List (List Acc)) : List Sta := (stationsR x).filter fun s => (circlesR x).any fun l => l.any (inL s)
theorem any_take_succ {α : Type} (l : List α) (f : α → Bool) (n : Nat) (a : α) (h : l[n]? = some a) : (l.take (n + 1)).any f = ((l.take n).any f || f a) := by
  rw [List.take_add_one, h, List.any_append]; simp

theorem neededR_ok (x : List (List Acc)) (hx : Small x) (hlen : (stationsR x).length ≤ 1000) (hth : ∀ s ∈ stationsR x, isThere x s = true) (hcl : (circlesR x).length ≤ 1000000000000) (hc3 : ∀ l ∈ circlesR x, l.length ≤ 3) : ACall P 83 [.d (dX x)] [] (.own 3 ((neededR x).map dSta)) [] := by
  have cst := stationsR_ok x hx
  have ccs := circlesR_ok x hx hlen hth
  unfold neededR
  obtain ⟨all, hall⟩ : ∃ l, stationsR x = l := ⟨_, rfl⟩
  obtain ⟨cs, hcs⟩ : ∃ l, circlesR x = l := ⟨_, rfl⟩
  rw [hall] at cst hlen ⊢
  rw [hcs] at ccs hcl hc3 ⊢
  obtain ⟨S, hS⟩ : ∃ S, all.map dSta = S := ⟨_, rfl⟩
  obtain ⟨n, hn⟩ : ∃ n : Int, (S.length : Int) = n := ⟨_, rfl⟩
  have hln : (all.length : Int) = n := by rw [← hn, ← hS]; simp
  obtain ⟨C, hC⟩ : ∃ S, cs.map dLs = S := ⟨_, rfl⟩
  obtain ⟨m, hm⟩ : ∃ n : Int, (C.length : Int) = n := ⟨_, rfl⟩
  have hlm : (cs.length : Int) = m := by rw [← hm, ← hC]; simp
  obtain ⟨X, hX⟩ : ∃ X, dX x = X := ⟨_, rfl⟩
  rw [hX, hS] at cst
  rw [hX, hC] at ccs
  rw [hX]
  obtain ⟨p, hp⟩ : ∃ p : Sta → Bool, (fun s => cs.any fun l => l.any (inL s)) = p := ⟨_, rfl⟩
  have hpp : ∀ s, p s = cs.any fun l => l.any (inL s) := fun s => by rw [← hp]
  rw [hp]
  refine ACall.enter hT (fn := Try.f83) Try.func83 rfl (by decide) (by simp [Try.f83]) rfl rfl rfl rfl (Nat.le_refl _) ?_
  repeat refine AWp.seq ?_
  refine AWp.reg1 {tk := [2]} hT (fun A hA => by cbv) (Nat.zero_le _) ?_
  try dsimp only [AExit.then, AExit.block]
  repeat refine AWp.seq ?_
  refine AWp.reg1 {tk := [3]} hT (fun A hA => by cbv) (Nat.zero_le _) ?_
  try dsimp only [AExit.then, AExit.block]
  repeat refine AWp.seq ?_
  refine AWp.region ?_
  refine AOps.stepCall hT (an := {}) (fun A hA => by cbv) (Nat.zero_le _) rfl (.inr rfl) rfl rfl rfl (Nat.le_of_ble_eq_true rfl) rfl rfl (ccs) ?_
  refine AOps.done hT (an := {}) (fun A hA => by cbv) (Nat.zero_le _) ?_
  try dsimp only [AExit.then, AExit.block]
  repeat refine AWp.seq ?_
  refine AWp.region ?_
  refine AOps.stepCall hT (an := {}) (fun A hA => by cbv) (Nat.zero_le _) rfl (.inr rfl) rfl rfl rfl (Nat.le_of_ble_eq_true rfl) rfl rfl (cst) ?_
  refine AOps.done hT (an := {}) (fun A hA => by
      have f0 := ar_len hA S n hn
      repeat (cbv; simp only [f0])
      cbv) (Nat.zero_le _) ?_
  try dsimp only [AExit.then, AExit.block]
  refine AWp.block (AWp.loopInv (ι := Int × List D) (fun p' => 0 ≤ p'.1 ∧ p'.1 ≤ n ∧ p'.2 = ((all.take p'.1.toNat).filter p).map dSta ∧ p'.2.length ≤ p'.1) (fun p => (n - p.1).toNat) [3, 4, 15, 16, 17]
    (fun p => { env := [(3, .own 3 p.2), (4, .d (.list 1 C)), (15, .own 3 S), (16, AI n), (17, AI p.1)], heap := [], n := 55 }) (0, []) (by cbv) ⟨Int.le_refl _, by dsimp only; omega, by simp, by simp⟩ ?_)
  rintro ⟨z, l⟩ ⟨h0, h1, hl, hlen1⟩
  dsimp only at *
  by_cases hz : z < n
  · obtain ⟨⟨t, a, b⟩, hs⟩ : ∃ s, all[z.toNat]? = some s := ⟨_, List.getElem?_eq_getElem (by omega)⟩
    have hSz : S[z.toNat]? = some (.agg [I t, I a, I b]) := by rw [← hS, List.getElem?_map, hs]; rfl
    obtain ⟨z1, hz1⟩ : ∃ z1, z + 1 = z1 := ⟨_, rfl⟩
    have hz1n : z1.toNat = z.toNat + 1 := by omega
    have hpz := hpp (t, a, b)
    obtain ⟨lt, hlt⟩ : ∃ r, decide (a < b) = r := ⟨_, rfl⟩
    have hl' : ∀ A : Ar, A = Ar.std → A.zlt a b = lt := fun A hA => by subst hA; exact hlt
    obtain ⟨q, hq⟩ : ∃ p : Sta → Bool, inL (t, a, b) = p := ⟨_, rfl⟩
    have hqq : ∀ u, q u = (decide (u = (t, a, b)) && lt) := fun s => by rw [← hq, ← hlt]; rfl
    rw [hq] at hpz
    obtain ⟨Q, hQ⟩ : ∃ p : List Sta → Bool, (fun l : List Sta => l.any q) = p := ⟨_, rfl⟩
    have hQQ : ∀ l, Q l = l.any q := fun s => by rw [← hQ]
    rw [hQ] at hpz
    have hstep : all.take z1.toNat = all.take z.toNat ++ [(t, a, b)] := by rw [hz1n, List.take_add_one, hs]; rfl
    repeat refine AWp.seq ?_
    refine AWp.reg1 {} hT (fun A hA => by
        have f0 := ar_lt hA hz
        repeat (cbv; simp only [f0])
        cbv) (Nat.zero_le _) ?_
    try dsimp only [AExit.then, AExit.block]
    repeat refine AWp.seq ?_
    refine AWp.cond (b := true) rfl (AWp.skip ?_)
    try dsimp only [AExit.then, AExit.block]
    repeat refine AWp.seq ?_
    refine AWp.block ?_
    repeat refine AWp.seq ?_
    refine AWp.reg1 {} hT (fun A hA => by
        have f0 := ar_get hA hSz
        have f1 := ar_le hA h0
        repeat (cbv; simp only [f0, f1])
        cbv) (Nat.zero_le _) ?_
    try dsimp only [AExit.then, AExit.block]
    repeat refine AWp.seq ?_
    refine AWp.reg1 {} hT (fun A hA => by cbv) (Nat.zero_le _) ?_
    try dsimp only [AExit.then, AExit.block]
    repeat refine AWp.seq ?_
    refine AWp.reg1 {} hT (fun A hA => by
        have f0 := ar_len hA C m hm
        repeat (cbv; simp only [f0])
        cbv) (Nat.zero_le _) ?_
    try dsimp only [AExit.then, AExit.block]
    refine AWp.block (AWp.loopInv (ι := Int × Bool) (fun p => 0 ≤ p.1 ∧ p.1 ≤ m ∧ p.2 = (cs.take p.1.toNat).any Q) (fun p => (m - p.1).toNat) [3, 4, 6, 7, 15, 16, 17, 21, 22, 23]
      (fun p => { env := [(3, .own 3 l), (4, .d (.list 1 C)), (6, .lbox [AI t, AI a, AI b]), (7, AB p.2), (15, .own 3 S), (16, AI n), (17, AI z), (21, .d (.list 1 C)), (22, AI m), (23, AI p.1)], heap := [], n := 55 }) (0, false) (by cbv) ⟨Int.le_refl _, by dsimp only; omega, by simp⟩ ?_)
    rintro ⟨y, is⟩ ⟨g0, g1, g2⟩
    dsimp only at *
    by_cases hy : y < m
    · obtain ⟨c, hc⟩ : ∃ s, cs[y.toNat]? = some s := ⟨_, List.getElem?_eq_getElem (by omega)⟩
      have hc3' := hc3 c (List.mem_of_getElem? hc)
      obtain ⟨L, hL⟩ : ∃ S, c.map dSta = S := ⟨_, rfl⟩
      obtain ⟨k, hk⟩ : ∃ n : Int, (L.length : Int) = n := ⟨_, rfl⟩
      have hlk : (c.length : Int) = k := by rw [← hk, ← hL]; simp
      have hCy : C[y.toNat]? = some (.list 3 L) := by rw [← hC, List.getElem?_map, hc, ← hL]; rfl
      obtain ⟨y1, hy1⟩ : ∃ z1, y + 1 = z1 := ⟨_, rfl⟩
      have hany := any_take_succ cs Q y.toNat c hc
      rw [← g2, hQQ, show y.toNat + 1 = y1.toNat by omega] at hany
      repeat refine AWp.seq ?_
      refine AWp.reg1 {} hT (fun A hA => by
          have f0 := ar_lt hA hy
          repeat (cbv; simp only [f0])
          cbv) (Nat.zero_le _) ?_
      try dsimp only [AExit.then, AExit.block]
      repeat refine AWp.seq ?_
      refine AWp.cond (b := true) rfl (AWp.skip ?_)
      try dsimp only [AExit.then, AExit.block]
      repeat refine AWp.seq ?_
      refine AWp.block ?_
      repeat refine AWp.seq ?_
      refine AWp.reg1 {} hT (fun A hA => by
          have f0 := ar_get hA hCy
          have f1 := ar_le hA g0
          repeat (cbv; simp only [f0, f1])
          cbv) (Nat.zero_le _) ?_
      try dsimp only [AExit.then, AExit.block]
      repeat refine AWp.seq ?_
      refine AWp.reg1 {} hT (fun A hA => by
          have f0 := ar_len hA L k hk
          repeat (cbv; simp only [f0])
          cbv) (Nat.zero_le _) ?_
      try dsimp only [AExit.then, AExit.block]
      refine AWp.block (AWp.loopInv (ι := Int × Bool) (fun p => 0 ≤ p.1 ∧ p.1 ≤ k ∧ p.2 = (is || (c.take p.1.toNat).any q)) (fun p => (k - p.1).toNat) [3, 4, 6, 7, 15, 16, 17, 21, 22, 23, 27, 28, 29]
        (fun p => { env := [(3, .own 3 l), (4, .d (.list 1 C)), (6, .lbox [AI t, AI a, AI b]), (7, AB p.2), (15, .own 3 S), (16, AI n), (17, AI z), (21, .d (.list 1 C)), (22, AI m), (23, AI y), (27, .d (.list 3 L)), (28, AI k), (29, AI p.1)], heap := [], n := 55 }) (0, is) (by cbv) ⟨Int.le_refl _, by dsimp only; omega, by simp⟩ ?_)
      rintro ⟨v, is2⟩ ⟨e0, e1, e2⟩
      dsimp only at *
      by_cases hv : v < k
      · obtain ⟨⟨u, f, g⟩, hu⟩ : ∃ s, c[v.toNat]? = some s := ⟨_, List.getElem?_eq_getElem (by omega)⟩
        have hLv : L[v.toNat]? = some (.agg [I u, I f, I g]) := by rw [← hL, List.getElem?_map, hu]; rfl
        obtain ⟨v1, hv1⟩ : ∃ z1, v + 1 = z1 := ⟨_, rfl⟩
        have hany2 := any_take_succ c q v.toNat _ hu
        rw [show v.toNat + 1 = v1.toNat by omega, hqq] at hany2
        obtain ⟨r, hr⟩ : ∃ r, decide ((u, f, g) = (t, a, b)) = r := ⟨_, rfl⟩
        have hdeq : ∀ A : Ar, A = Ar.std → A.deq [I u, I f, I g] [I t, I a, I b] = r := fun A hA => ar_deq hA (by rw [← hr]; simp)
        rw [hr] at hany2
        have hnew : ∀ is3, is3 = (is2 || (r && lt)) → is3 = (is || (c.take v1.toNat).any q) := fun is3 h => by rw [hany2, h, e2, Bool.or_assoc]
        repeat refine AWp.seq ?_
        refine AWp.reg1 {} hT (fun A hA => by
            have f0 := ar_lt hA hv
            repeat (cbv; simp only [f0])
            cbv) (Nat.zero_le _) ?_
        try dsimp only [AExit.then, AExit.block]
        repeat refine AWp.seq ?_
        refine AWp.cond (b := true) rfl (AWp.skip ?_)
        try dsimp only [AExit.then, AExit.block]
        repeat refine AWp.seq ?_
        refine AWp.block ?_
        repeat refine AWp.seq ?_
        refine AWp.reg1 {} hT (fun A hA => by
            have f0 := ar_get hA hLv
            have f1 := ar_le hA e0
            repeat (cbv; simp only [f0, f1])
            cbv) (Nat.zero_le _) ?_
        try dsimp only [AExit.then, AExit.block]
        cases is2 with
        | true =>
          repeat refine AWp.seq ?_
          refine AWp.reg1 {} hT (fun A hA => by cbv) (Nat.zero_le _) ?_
          try dsimp only [AExit.then, AExit.block]
          repeat refine AWp.seq ?_
          refine AWp.reg1 {} hT (fun A hA => by
              have f0 := ar_add hA v 1 v1 hv1 (by omega) (by omega)
              repeat (cbv; simp only [f0])
              cbv) (Nat.zero_le _) ?_
          try dsimp only [AExit.then, AExit.block]
          exact ⟨(v1, true), ⟨by dsimp only; omega, by dsimp only; omega, hnew _ rfl⟩, by dsimp only; omega, by cbv⟩
        | false =>
          cases r with
          | true =>
            repeat refine AWp.seq ?_
            refine AWp.reg1 {} hT (fun A hA => by
                have f0 := hdeq A hA
                have f1 := hl' A hA
                repeat (cbv; simp only [f0, f1])
                cbv) (Nat.zero_le _) ?_
            try dsimp only [AExit.then, AExit.block]
            repeat refine AWp.seq ?_
            refine AWp.reg1 {} hT (fun A hA => by
                have f0 := ar_add hA v 1 v1 hv1 (by omega) (by omega)
                repeat (cbv; simp only [f0])
                cbv) (Nat.zero_le _) ?_
            try dsimp only [AExit.then, AExit.block]
            exact ⟨(v1, lt), ⟨by dsimp only; omega, by dsimp only; omega, hnew _ (by simp)⟩, by dsimp only; omega, by cbv⟩
          | false =>
            repeat refine AWp.seq ?_
            refine AWp.reg1 {} hT (fun A hA => by
                have f0 := hdeq A hA
                repeat (cbv; simp only [f0])
                cbv) (Nat.zero_le _) ?_
            try dsimp only [AExit.then, AExit.block]
            repeat refine AWp.seq ?_
            refine AWp.reg1 {} hT (fun A hA => by
                have f0 := ar_add hA v 1 v1 hv1 (by omega) (by omega)
                repeat (cbv; simp only [f0])
                cbv) (Nat.zero_le _) ?_
            try dsimp only [AExit.then, AExit.block]
            exact ⟨(v1, false), ⟨by dsimp only; omega, by dsimp only; omega, hnew _ rfl⟩, by dsimp only; omega, by cbv⟩
      · rw [List.take_of_length_le (by omega)] at e2
        repeat refine AWp.seq ?_
        refine AWp.reg1 {} hT (fun A hA => by
            have f0 := ar_nlt hA hv
            repeat (cbv; simp only [f0])
            cbv) (Nat.zero_le _) ?_
        try dsimp only [AExit.then, AExit.block]
        repeat refine AWp.seq ?_
        refine AWp.cond (b := false) rfl (AWp.exit ?_)
        try dsimp only [AExit.then, AExit.block]
        rw [if_pos rfl]
        repeat refine AWp.seq ?_
        refine AWp.reg1 {} hT (fun A hA => by
            have f0 := ar_add hA y 1 y1 hy1 (by omega) (by omega)
            repeat (cbv; simp only [f0])
            cbv) (Nat.zero_le _) ?_
        try dsimp only [AExit.then, AExit.block]
        exact ⟨(y1, is2), ⟨by dsimp only; omega, by dsimp only; omega, by dsimp only; rw [hany, e2]⟩, by dsimp only; omega, by cbv⟩
    · rw [List.take_of_length_le (by omega), ← hpz] at g2
      subst g2
      obtain ⟨r, hr⟩ : ∃ r, p (t, a, b) = r := ⟨_, rfl⟩
      rw [hr]
      repeat refine AWp.seq ?_
      refine AWp.reg1 {} hT (fun A hA => by
          have f0 := ar_nlt hA hy
          repeat (cbv; simp only [f0])
          cbv) (Nat.zero_le _) ?_
      try dsimp only [AExit.then, AExit.block]
      repeat refine AWp.seq ?_
      refine AWp.cond (b := false) rfl (AWp.exit ?_)
      try dsimp only [AExit.then, AExit.block]
      rw [if_pos rfl]
      repeat refine AWp.seq ?_
      refine AWp.reg1 {} hT (fun A hA => by cbv) (Nat.zero_le _) ?_
      try dsimp only [AExit.then, AExit.block]
      cases r with
      | true =>
        obtain ⟨L1, hL1⟩ : ∃ l3, l ++ [.agg [I t, I a, I b]] = l3 := ⟨_, rfl⟩
        repeat refine AWp.seq ?_
        refine AWp.cond (b := true) rfl ?_
        rw [if_pos rfl]
        repeat refine AWp.seq ?_
        refine AWp.reg1 {tk := [3, 49, 52]} hT (fun A hA => by
            have f0 := ar_app hA _ _ _ hL1
            have f1 := ar_fits hA l [.agg [I t, I a, I b]] (by simp; omega)
            repeat (cbv; simp only [f0, f1])
            cbv) (Nat.zero_le _) ?_
        try dsimp only [AExit.then, AExit.block]
        repeat refine AWp.seq ?_
        refine AWp.reg1 {} hT (fun A hA => by
            have f0 := ar_add hA z 1 z1 hz1 (by omega) (by omega)
            repeat (cbv; simp only [f0])
            cbv) (Nat.zero_le _) ?_
        try dsimp only [AExit.then, AExit.block]
        refine ⟨(z1, L1), ⟨by dsimp only; omega, by dsimp only; omega, ?_, by rw [← hL1]; simp; omega⟩, by dsimp only; omega, by cbv⟩
        dsimp only
        rw [hstep, List.filter_append, List.map_append, ← hl, ← hL1]
        simp [hr, dSta]
      | false =>
        repeat refine AWp.seq ?_
        refine AWp.cond (b := false) rfl (AWp.skip ?_)
        try dsimp only [AExit.then, AExit.block]
        repeat refine AWp.seq ?_
        refine AWp.reg1 {} hT (fun A hA => by
            have f0 := ar_add hA z 1 z1 hz1 (by omega) (by omega)
            repeat (cbv; simp only [f0])
            cbv) (Nat.zero_le _) ?_
        try dsimp only [AExit.then, AExit.block]
        refine ⟨(z1, l), ⟨by dsimp only; omega, by dsimp only; omega, ?_, by dsimp only; omega⟩, by dsimp only; omega, by cbv⟩
        dsimp only
        rw [hstep, List.filter_append, List.map_append, ← hl]
        simp [hr]
  · rw [List.take_of_length_le (by omega)] at hl
    rw [← hl]
    repeat refine AWp.seq ?_
    refine AWp.reg1 {} hT (fun A hA => by
        have f0 := ar_nlt hA hz
        repeat (cbv; simp only [f0])
        cbv) (Nat.zero_le _) ?_
    try dsimp only [AExit.then, AExit.block]
    repeat refine AWp.seq ?_
    refine AWp.cond (b := false) rfl (AWp.exit ?_)
    try dsimp only [AExit.then, AExit.block]
    rw [if_pos rfl]
    repeat refine AWp.seq ?_
    refine AWp.reg1 {tk := [3, 54]} hT (fun A hA => by cbv) (Nat.zero_le _) ?_
    try dsimp only [AExit.then, AExit.block]
    repeat refine AWp.seq ?_
    refine AWp.ret ⟨?_, rfl, rfl, Nat.zero_le _, _, rfl⟩
    rfl
end Go.Am

set_option maxRecDepth 100000
set_option linter.unusedVariables false
set_option linter.unusedSimpArgs false
namespace Go.Am
open Go Go.Proofs

theorem DelayConflicts_ok (x : List (List Acc)) (t a u b : Int) (hx : Big x) (law1 : nConfR x = nConf x) (law2 : pairsR x = pairsL x) :
    ACall P 4 [.d (dX x), AI t, AI a, AI u, AI b] [] (AB true) [] := by
  have clo := long_ok x hx
  have caw := awake_ok
  cases hlo : long x with
  | true =>
    rw [hlo] at clo
    obtain ⟨X, hX⟩ : ∃ X, dX x = X := ⟨_, rfl⟩
    rw [hX] at clo ⊢
    refine ACall.enter hT (fn := Try.f4) Try.func4 rfl (by decide) (by simp [Try.f4]) rfl rfl rfl rfl (Nat.le_refl _) ?_
    repeat refine AWp.seq ?_
    refine AWp.reg1 {} hT (fun A hA => by cbv) (Nat.zero_le _) ?_
    try dsimp only [AExit.then, AExit.block]
    repeat refine AWp.seq ?_
    refine AWp.region ?_
    refine AOps.stepCall hT (an := {}) (fun A hA => by cbv) (Nat.zero_le _) rfl (.inr rfl) rfl rfl rfl (Nat.le_of_ble_eq_true rfl) rfl rfl (clo) ?_
    refine AOps.done hT (an := {}) (fun A hA => by cbv) (Nat.zero_le _) ?_
    try dsimp only [AExit.then, AExit.block]
    repeat refine AWp.seq ?_
    refine AWp.cond (b := true) rfl ?_
    rw [if_pos rfl]
    repeat refine AWp.seq ?_
    refine AWp.region ?_
    refine AOps.stepCall hT (an := {}) (fun A hA => by cbv) (Nat.zero_le _) rfl (.inr rfl) rfl rfl rfl (Nat.le_of_ble_eq_true rfl) rfl rfl (caw) ?_
    refine AOps.done hT (an := {}) (fun A hA => by cbv) (Nat.zero_le _) ?_
    try dsimp only [AExit.then, AExit.block]
    repeat refine AWp.seq ?_
    refine AWp.ret ⟨?_, rfl, rfl, Nat.zero_le _, _, rfl⟩
    rfl
  | false =>
    rw [hlo] at clo
    have c1 := Conflict_ok x t a u b hx (fun h => valid_small h)
    have c2 := ConflictR_ok x t a u b hx (fun h => valid_small h)
    have c3 := valid_ok x hx
    have c4 := validR_ok x hx
    have c5 := conflicts_ok x hx (fun h => valid_small h)
    have c6 := conflictsR_ok x hx (fun h => valid_small h)
    have c7 := Pairs_ok x hx (fun h => ⟨valid_small h, Nat.le_trans (stations_48 h) (by omega)⟩)
    have c8 := PairsR_ok x hx (fun h => valid_small h)
    rw [law1] at c6
    rw [law2] at c8
    obtain ⟨l, hl, hll⟩ : ∃ l : List Sta, (if valid x then (pairsL x).map dSta else []) = l.map dSta ∧ l.length ≤ 9223372036854775807 := by
      cases hv : valid x with
      | false => exact ⟨[], by simp, by simp⟩
      | true =>
        refine ⟨pairsL x, by simp, ?_⟩
        have := stations_48 hv
        have h2 := List.length_filter_le (isPair x) (stations x)
        unfold pairsL
        omega
    have c9 := sameStations_ok l l hll
    rw [← hl] at c9
    rw [decide_eq_true rfl] at c9
    obtain ⟨i1, e1, hce⟩ : ∃ i e, conflictT x t a u b = [AB i, AI e] := by
      unfold conflictT
      split
      · split <;> exact ⟨_, _, rfl⟩
      · exact ⟨_, _, rfl⟩
    obtain ⟨n1, e2, hne⟩ : ∃ n e, (if valid x then [AI (nConf x), AI 0] else [AI 0, AI 90]) = [AI n, AI e] := by
      split <;> exact ⟨_, _, rfl⟩
    rw [hce] at c1 c2
    rw [hne] at c5 c6
    obtain ⟨e3, he3⟩ : ∃ e : Int, (if valid x then 0 else 90) = e := ⟨_, rfl⟩
    rw [he3] at c7 c8
    obtain ⟨R, hR⟩ : ∃ R, (if valid x then (pairsL x).map dSta else []) = R := ⟨_, rfl⟩
    rw [hR] at c7 c8 c9
    obtain ⟨v, hv⟩ : ∃ v, valid x = v := ⟨_, rfl⟩
    rw [hv] at c3 c4
    obtain ⟨X, hX⟩ : ∃ X, dX x = X := ⟨_, rfl⟩
    rw [hX] at clo c1 c2 c3 c4 c5 c6 c7 c8 ⊢
    have hvv : (v == v) = true := by cases v <;> rfl
    have hii : (i1 == i1) = true := by cases i1 <;> rfl
    refine ACall.enter hT (fn := Try.f4) Try.func4 rfl (by decide) (by simp [Try.f4]) rfl rfl rfl rfl (Nat.le_refl _) ?_
    repeat refine AWp.seq ?_
    refine AWp.reg1 {} hT (fun A hA => by cbv) (Nat.zero_le _) ?_
    try dsimp only [AExit.then, AExit.block]
    repeat refine AWp.seq ?_
    refine AWp.region ?_
    refine AOps.stepCall hT (an := {}) (fun A hA => by cbv) (Nat.zero_le _) rfl (.inr rfl) rfl rfl rfl (Nat.le_of_ble_eq_true rfl) rfl rfl (clo) ?_
    refine AOps.done hT (an := {}) (fun A hA => by cbv) (Nat.zero_le _) ?_
    try dsimp only [AExit.then, AExit.block]
    repeat refine AWp.seq ?_
    refine AWp.cond (b := false) rfl (AWp.skip ?_)
    try dsimp only [AExit.then, AExit.block]
    repeat refine AWp.seq ?_
    refine AWp.region ?_
    refine AOps.stepCall hT (an := {}) (fun A hA => by cbv) (Nat.zero_le _) rfl (.inr rfl) rfl rfl rfl (Nat.le_of_ble_eq_true rfl) rfl rfl (c1) ?_
    refine AOps.done hT (an := {}) (fun A hA => by cbv) (Nat.zero_le _) ?_
    try dsimp only [AExit.then, AExit.block]
    repeat refine AWp.seq ?_
    refine AWp.region ?_
    refine AOps.stepCall hT (an := {}) (fun A hA => by cbv) (Nat.zero_le _) rfl (.inr rfl) rfl rfl rfl (Nat.le_of_ble_eq_true rfl) rfl rfl (c2) ?_
    refine AOps.done hT (an := {}) (fun A hA => by cbv) (Nat.zero_le _) ?_
    try dsimp only [AExit.then, AExit.block]
    repeat refine AWp.seq ?_
    refine AWp.region ?_
    refine AOps.stepCall hT (an := {}) (fun A hA => by cbv) (Nat.zero_le _) rfl (.inr rfl) rfl rfl rfl (Nat.le_of_ble_eq_true rfl) rfl rfl (c3) ?_
    refine AOps.stepCall hT (an := {}) (fun A hA => by cbv) (Nat.zero_le _) rfl (.inr rfl) rfl rfl rfl (Nat.le_of_ble_eq_true rfl) rfl rfl (c4) ?_
    refine AOps.done hT (an := {}) (fun A hA => by
        have f0 := ar_beq hA hvv
        have f1 := ar_beq hA hii
        have f2 := ar_eq hA (rfl : e1 = e1)
        repeat (cbv; simp only [f0, f1, f2])
        cbv) (Nat.zero_le _) ?_
    try dsimp only [AExit.then, AExit.block]
    repeat refine AWp.seq ?_
    refine AWp.cond (b := false) rfl (AWp.skip ?_)
    try dsimp only [AExit.then, AExit.block]
    repeat refine AWp.seq ?_
    refine AWp.region ?_
    refine AOps.stepCall hT (an := {}) (fun A hA => by cbv) (Nat.zero_le _) rfl (.inr rfl) rfl rfl rfl (Nat.le_of_ble_eq_true rfl) rfl rfl (c5) ?_
    refine AOps.done hT (an := {}) (fun A hA => by cbv) (Nat.zero_le _) ?_
    try dsimp only [AExit.then, AExit.block]
    repeat refine AWp.seq ?_
    refine AWp.region ?_
    refine AOps.stepCall hT (an := {}) (fun A hA => by cbv) (Nat.zero_le _) rfl (.inr rfl) rfl rfl rfl (Nat.le_of_ble_eq_true rfl) rfl rfl (c6) ?_
    refine AOps.done hT (an := {}) (fun A hA => by cbv) (Nat.zero_le _) ?_
    try dsimp only [AExit.then, AExit.block]
    repeat refine AWp.seq ?_
    refine AWp.region ?_
    refine AOps.stepCall hT (an := {}) (fun A hA => by cbv) (Nat.zero_le _) rfl (.inr rfl) rfl rfl rfl (Nat.le_of_ble_eq_true rfl) rfl rfl (c7) ?_
    refine AOps.done hT (an := {}) (fun A hA => by cbv) (Nat.zero_le _) ?_
    try dsimp only [AExit.then, AExit.block]
    repeat refine AWp.seq ?_
    refine AWp.region ?_
    refine AOps.stepCall hT (an := {}) (fun A hA => by cbv) (Nat.zero_le _) rfl (.inr rfl) rfl rfl rfl (Nat.le_of_ble_eq_true rfl) rfl rfl (c8) ?_
    refine AOps.done hT (an := {}) (fun A hA => by cbv) (Nat.zero_le _) ?_
    try dsimp only [AExit.then, AExit.block]
    repeat refine AWp.seq ?_
    refine AWp.region ?_
    refine AOps.stepCall hT (an := {}) (fun A hA => by
        have f0 := ar_eq hA (rfl : n1 = n1)
        have f1 := ar_eq hA (rfl : e2 = e2)
        repeat (cbv; simp only [f0, f1])
        cbv) (Nat.zero_le _) rfl (.inr rfl) rfl rfl rfl (Nat.le_of_ble_eq_true rfl) rfl rfl (c9) ?_
    refine AOps.stepCall hT (an := {}) (fun A hA => by
        have f0 := ar_eq hA (rfl : e3 = e3)
        repeat (cbv; simp only [f0])
        cbv) (Nat.zero_le _) rfl (.inr rfl) rfl rfl rfl (Nat.le_of_ble_eq_true rfl) rfl rfl (caw) ?_
    refine AOps.done hT (an := {}) (fun A hA => by cbv) (Nat.zero_le _) ?_
    try dsimp only [AExit.then, AExit.block]
    repeat refine AWp.seq ?_
    refine AWp.ret ⟨?_, rfl, rfl, Nat.zero_le _, _, rfl⟩
    rfl

/-! ### The laws -/
theorem filter_range_le (p : Nat → Bool) (a : Nat) : ∀ n, (∀ b, p b = true → a ≤ b) → (List.range n).filter (fun b => decide (a ≤ b) && p b) = (List.range n).filter p := by
  intro n h
  apply List.filter_congr
  intro b _
  cases hp : p b with
  | false => simp
  | true => simp [h b hp]

theorem pairsR_eq (x : List (List Acc)) : pairsR x = pairsL x := by
  unfold pairsR pairsL stationsR stations stRT staT
  rw [List.filter_flatMap, List.filter_flatMap]
  congr 1
  funext t
  unfold stRA staA
  rw [List.filter_flatMap, List.filter_flatMap]
  congr 1
  funext a
  unfold stRB staB
  rw [List.filter_map, List.filter_map, List.filter_filter, List.filter_filter]
  congr 1
  apply List.filter_congr
  intro b _
  simp only [Function.comp]
  cases hp : isPair x ((t : Int), (a : Int), (b : Int)) with
  | false =>
    by_cases e : a = b
    · subst e; simp
    · simp [e]
  | true =>
    have : (a : Int) < b := by
      unfold isPair at hp
      simp only [Bool.and_eq_true, decide_eq_true_eq] at hp
      exact hp.1.1.1
    have h1 : decide (a ≤ b) = true := by simp; omega
    have h2 : decide ((a : Int) < b) = true := by simp; omega
    simp [h1]; omega
end Go.Am

set_option maxRecDepth 100000
set_option linter.unusedVariables false
set_option linter.unusedSimpArgs false
namespace Go.Am
open Go Go.Proofs

theorem flatMap_congr' {α β : Type} {l : List α} {f g : α → List β} (h : ∀ a ∈ l, f a = g a) : l.flatMap f = l.flatMap g := by
  induction l with
  | nil => rfl
  | cons a r ih => rw [List.flatMap_cons, List.flatMap_cons, h a (by simp), ih (fun b hb => h b (by simp [hb]))]
theorem stationsR_eq (x : List (List Acc)) : stationsR x = stations x := by
  unfold stationsR stations stRT staT
  congr 1
  funext t
  unfold stRA staA
  congr 1
  funext a
  unfold stRB staB
  congr 1
  apply List.filter_congr
  intro b _
  cases hp : isPair x ((t : Int), (a : Int), (b : Int)) with
  | false =>
    by_cases e : a = b
    · subst e; simp
    · simp [e]
  | true =>
    have : (a : Int) < b := ((isPair_iff x _).1 hp).1
    have h1 : decide (a ≤ b) = true := by simp; omega
    simp [h1]
theorem getD_lt {α : Type} (l : List α) (i : Nat) (d : α) (h : i < l.length) : l.getD i d = l[i] := by
  rw [List.getD_eq_getElem?_getD, List.getElem?_eq_getElem h]; rfl
theorem isCircR_eq (x : List (List Acc)) (l : List Sta) : isCircR x l = isCircF x l := by
  rw [Bool.eq_iff_iff]
  unfold isCircR isCircF isCircle
  simp only [Bool.and_eq_true, decide_eq_true_eq, List.all_eq_true, List.any_eq_true, List.mem_range, List.contains_eq_mem, Bool.not_eq_true', decide_eq_false_iff_not]
  constructor
  · rintro ⟨⟨⟨⟨h1, h2⟩, h3⟩, h4⟩, s, h5, h6⟩
    have hin : ∀ s ∈ l, inS x s := by
      intro s hs
      obtain ⟨i, hi, rfl⟩ := List.getElem_of_mem hs
      have := h3 i hi
      unfold okAt at this
      rw [getD_lt _ _ _ hi] at this
      simp only [Bool.and_eq_true, Bool.or_eq_true, decide_eq_true_eq] at this
      obtain ⟨⟨g1, g2⟩, _⟩ := this
      obtain ⟨k1, k2, k3, k4⟩ := (there_iff x _ _).1 g1
      rcases g2 with g2 | g2
      · exact ⟨k1, k2, k3, by omega, by rw [← g2]; exact k4, .inl g2⟩
      · obtain ⟨j1, _, j2, _⟩ := (isPair_iff x _).1 g2
        obtain ⟨_, _, _, j3⟩ := (there_iff x _ _).1 j2
        exact ⟨k1, k2, k3, by omega, j3, .inr g2⟩
    refine ⟨⟨⟨h1, h2⟩, fun s hs => mem_stations_iff.2 (hin s hs)⟩, fun i hi => ?_, s, h5, ?_⟩
    · have g1 := h3 i hi
      have g2 := h4 i hi
      unfold okAt at g1
      unfold cfAt at g2
      unfold circAt
      dsimp only
      rw [g2, Bool.true_and]
      simp only [Bool.and_eq_true, List.all_eq_true, Bool.not_eq_true', decide_eq_false_iff_not] at g1
      rw [Bool.not_eq_true', List.any_eq_false]
      intro u hu
      have := g1.2 u hu
      simpa using this
    · obtain ⟨_, _, _, _, _, g⟩ := hin s h5
      exact g.resolve_left h6
  · rintro ⟨⟨⟨h1, h2⟩, h3⟩, h4, s, h5, h6⟩
    refine ⟨⟨⟨⟨h1, h2⟩, fun i hi => ?_⟩, fun i hi => ?_⟩, s, h5, ?_⟩
    · have g1 := h4 i hi
      unfold circAt at g1
      dsimp only at g1
      rw [Bool.and_eq_true, Bool.not_eq_true', List.any_eq_false] at g1
      obtain ⟨k1, k2, k3, k4, k5, k6⟩ := mem_stations_iff.1 (h3 _ (List.getElem_mem hi))
      unfold okAt
      rw [getD_lt _ _ _ hi] at *
      simp only [Bool.and_eq_true, Bool.or_eq_true, decide_eq_true_eq, List.all_eq_true, Bool.not_eq_true', decide_eq_false_iff_not]
      refine ⟨⟨(there_iff x _ _).2 ⟨k1, k2, k3, ?_⟩, k6⟩, fun r hr => ?_⟩
      · unfold rl; omega
      · have := g1.2 r hr; simpa using this
    · have g1 := h4 i hi
      unfold circAt at g1
      dsimp only at g1
      rw [Bool.and_eq_true] at g1
      exact g1.1
    · have := ((isPair_iff x _).1 h6).1
      omega
theorem isCircF_mem {x : List (List Acc)} {l : List Sta} (h1 : 2 ≤ l.length) (h2 : l.length ≤ 3) (h : ∀ s ∈ l, s ∈ stations x) : isCircF x l = isCircle x l := by
  unfold isCircF
  have : (l.all fun s => (stations x).contains s) = true := by
    rw [List.all_eq_true]; intro s hs; rw [List.contains_eq_mem, decide_eq_true_eq]; exact h s hs
  rw [this]; simp [h1, h2]
theorem circlesR_eq (x : List (List Acc)) : circlesR x = circles x := by
  unfold circlesR circles
  rw [stationsR_eq]
  have hmem : ∀ s ∈ stations x, s ∈ stations x := fun _ h => h
  obtain ⟨all, hall⟩ : ∃ l, stations x = l := ⟨_, rfl⟩
  rw [hall] at hmem ⊢
  have h3 : circFrom x all 3 [] = all.flatMap fun s => circFrom x all 2 [s] := by
    conv => lhs; unfold circFrom
    simp [circHere, nextOk]
  have h2 : ∀ s, circFrom x all 2 [s] = all.flatMap fun q => if conflict x s.1 s.2.2 q.1 q.2.1 then circFrom x all 1 [s, q] else [] := fun s => by
    conv => lhs; unfold circFrom
    simp [circHere, nextOk, lastOf]
  have h1 : ∀ s q, circFrom x all 1 [s, q] = (if isCircle x [s, q] then [[s, q]] else []) ++ all.flatMap fun r => if conflict x q.1 q.2.2 r.1 r.2.1 then (if isCircle x [s, q, r] then [[s, q, r]] else []) else [] := fun s q => by
    conv => lhs; unfold circFrom
    simp [circHere, nextOk, lastOf, circFrom]
  rw [h3]
  refine flatMap_congr' fun s hs => ?_
  rw [h2]
  refine flatMap_congr' fun q hq => ?_
  unfold circ2R
  rw [isCircR_eq, isCircF_mem (by simp) (by simp) (by rw [hall]; intro u hu; simp at hu; rcases hu with rfl | rfl <;> assumption)]
  have e3 : all.flatMap (circ3R x s q) = all.flatMap fun r => if isCircle x [s, q, r] then [[s, q, r]] else [] := by
    refine flatMap_congr' fun r hr => ?_
    unfold circ3R
    rw [isCircR_eq, isCircF_mem (by simp) (by simp) (by rw [hall]; intro u hu; simp at hu; rcases hu with rfl | rfl | rfl <;> assumption)]
  rw [e3]
  cases hc : conflict x s.1 s.2.2 q.1 q.2.1 with
  | false => simp
  | true =>
    simp only [Bool.not_true, Bool.or_false, decide_eq_true_eq, if_true]
    have e4 : (all.flatMap fun r => if conflict x q.1 q.2.2 r.1 r.2.1 then (if isCircle x [s, q, r] then [[s, q, r]] else []) else []) = all.flatMap fun r => if isCircle x [s, q, r] then [[s, q, r]] else [] := by
      refine flatMap_congr' fun r hr => ?_
      rw [circ3]
      cases conflict x q.1 q.2.2 r.1 r.2.1 <;> simp
    rw [h1, e4]
    by_cases e : s.1 = q.1
    · rw [if_pos e, circ2]
      simp only [circ3, e, decide_true, Bool.not_true, Bool.and_false, Bool.false_and, Bool.false_eq_true, if_false]
      simp
    · rw [if_neg e]
theorem neededR_eq (x : List (List Acc)) : neededR x = neededL x := by
  unfold neededR neededL pairsL
  rw [stationsR_eq, circlesR_eq, List.filter_filter]
  apply List.filter_congr
  intro s hs
  obtain ⟨_, _, _, _, _, h6⟩ := mem_stations_iff.1 hs
  rw [Bool.eq_iff_iff]
  unfold inCircle inL
  simp only [Bool.and_eq_true, decide_eq_true_eq, List.any_eq_true, List.contains_eq_mem, List.mem_flatten]
  constructor
  · rintro ⟨l, hl, u, hu, rfl, hlt⟩
    exact ⟨⟨l, hl, hu⟩, h6.resolve_left (by omega)⟩
  · rintro ⟨⟨l, hl, hu⟩, hp⟩
    exact ⟨l, hl, s, hu, rfl, ((isPair_iff x _).1 hp).1⟩
end Go.Am

set_option maxRecDepth 100000
set_option linter.unusedVariables false
set_option linter.unusedSimpArgs false
namespace Go.Am
open Go Go.Proofs

theorem circles_len {x : List (List Acc)} (h : valid x = true) : (circles x).length ≤ 112945 := by
  have := circFrom_length x (stations x) (stations_48 h) 3 []
  unfold circles
  have e : circBound 3 = 112945 := by decide
  omega

theorem IsCircleR_ok (x : List (List Acc)) (c : List Sta) (hx : Big x) (hc : c.length ≤ 9223372036854775807) : ACall P 30 [.d (dX x), .d (.list 3 (c.map dSta))] [] (.tuple (if valid x then [AB (isCircF x c), AI 0] else [AB false, AI 90])) [] := by
  have cv := validR_ok x hx
  cases hv : valid x with
  | false =>
    rw [hv] at cv
    obtain ⟨X, hX⟩ : ∃ X, dX x = X := ⟨_, rfl⟩
    obtain ⟨C, hC⟩ : ∃ C, c.map dSta = C := ⟨_, rfl⟩
    rw [hX] at cv ⊢
    rw [hC]
    refine ACall.enter hT (fn := Try.f30) Try.func30 rfl (by decide) (by simp [Try.f30]) rfl rfl rfl rfl (Nat.le_refl _) ?_
    repeat refine AWp.seq ?_
    refine AWp.reg1 {} hT (fun A hA => by cbv) (Nat.zero_le _) ?_
    try dsimp only [AExit.then, AExit.block]
    repeat refine AWp.seq ?_
    refine AWp.region ?_
    refine AOps.stepCall hT (an := {}) (fun A hA => by cbv) (Nat.zero_le _) rfl (.inr rfl) rfl rfl rfl (Nat.le_of_ble_eq_true rfl) rfl rfl (cv) ?_
    refine AOps.done hT (an := {}) (fun A hA => by cbv) (Nat.zero_le _) ?_
    try dsimp only [AExit.then, AExit.block]
    repeat refine AWp.seq ?_
    refine AWp.cond (b := true) rfl ?_
    rw [if_pos rfl]
    repeat refine AWp.seq ?_
    refine AWp.reg1 {} hT (fun A hA => by cbv) (Nat.zero_le _) ?_
    try dsimp only [AExit.then, AExit.block]
    repeat refine AWp.seq ?_
    refine AWp.ret ⟨?_, rfl, rfl, Nat.zero_le _, _, rfl⟩
    rfl
  | true =>
    rw [hv] at cv
    rw [if_pos rfl]
    have cc := isCircR_ok x c (valid_small hv) hc
    rw [isCircR_eq] at cc
    obtain ⟨F, hF⟩ : ∃ F, isCircF x c = F := ⟨_, rfl⟩
    obtain ⟨X, hX⟩ : ∃ X, dX x = X := ⟨_, rfl⟩
    obtain ⟨C, hC⟩ : ∃ C, c.map dSta = C := ⟨_, rfl⟩
    rw [hF] at cc ⊢
    rw [hX] at cv cc ⊢
    rw [hC] at cc ⊢
    refine ACall.enter hT (fn := Try.f30) Try.func30 rfl (by decide) (by simp [Try.f30]) rfl rfl rfl rfl (Nat.le_refl _) ?_
    repeat refine AWp.seq ?_
    refine AWp.reg1 {} hT (fun A hA => by cbv) (Nat.zero_le _) ?_
    try dsimp only [AExit.then, AExit.block]
    repeat refine AWp.seq ?_
    refine AWp.region ?_
    refine AOps.stepCall hT (an := {}) (fun A hA => by cbv) (Nat.zero_le _) rfl (.inr rfl) rfl rfl rfl (Nat.le_of_ble_eq_true rfl) rfl rfl (cv) ?_
    refine AOps.done hT (an := {}) (fun A hA => by cbv) (Nat.zero_le _) ?_
    try dsimp only [AExit.then, AExit.block]
    repeat refine AWp.seq ?_
    refine AWp.cond (b := false) rfl (AWp.skip ?_)
    try dsimp only [AExit.then, AExit.block]
    repeat refine AWp.seq ?_
    refine AWp.region ?_
    refine AOps.stepCall hT (an := {}) (fun A hA => by cbv) (Nat.zero_le _) rfl (.inr rfl) rfl rfl rfl (Nat.le_of_ble_eq_true rfl) rfl rfl (cc) ?_
    refine AOps.done hT (an := {}) (fun A hA => by cbv) (Nat.zero_le _) ?_
    try dsimp only [AExit.then, AExit.block]
    repeat refine AWp.seq ?_
    refine AWp.ret ⟨?_, rfl, rfl, Nat.zero_le _, _, rfl⟩
    rfl

theorem CirclesR_ok (x : List (List Acc)) (hx : Big x) : ACall P 31 [.d (dX x)] [] (.tuple (if valid x then [AI (nCirc x), AI 0] else [AI 0, AI 90])) [] := by
  have cv := validR_ok x hx
  cases hv : valid x with
  | false =>
    rw [hv] at cv
    obtain ⟨X, hX⟩ : ∃ X, dX x = X := ⟨_, rfl⟩
    rw [hX] at cv ⊢
    refine ACall.enter hT (fn := Try.f31) Try.func31 rfl (by decide) (by simp [Try.f31]) rfl rfl rfl rfl (Nat.le_refl _) ?_
    repeat refine AWp.seq ?_
    refine AWp.reg1 {} hT (fun A hA => by cbv) (Nat.zero_le _) ?_
    try dsimp only [AExit.then, AExit.block]
    repeat refine AWp.seq ?_
    refine AWp.region ?_
    refine AOps.stepCall hT (an := {}) (fun A hA => by cbv) (Nat.zero_le _) rfl (.inr rfl) rfl rfl rfl (Nat.le_of_ble_eq_true rfl) rfl rfl (cv) ?_
    refine AOps.done hT (an := {}) (fun A hA => by cbv) (Nat.zero_le _) ?_
    try dsimp only [AExit.then, AExit.block]
    repeat refine AWp.seq ?_
    refine AWp.cond (b := true) rfl ?_
    rw [if_pos rfl]
    repeat refine AWp.seq ?_
    refine AWp.reg1 {} hT (fun A hA => by cbv) (Nat.zero_le _) ?_
    try dsimp only [AExit.then, AExit.block]
    repeat refine AWp.seq ?_
    refine AWp.ret ⟨?_, rfl, rfl, Nat.zero_le _, _, rfl⟩
    rfl
  | true =>
    rw [hv] at cv
    rw [if_pos rfl]
    have h48 := stations_48 hv
    have cc := circlesR_ok x (valid_small hv) (by rw [stationsR_eq]; omega) (by rw [stationsR_eq]; exact fun s hs => mem_stations hs)
    rw [circlesR_eq] at cc
    obtain ⟨X, hX⟩ : ∃ X, dX x = X := ⟨_, rfl⟩
    obtain ⟨C, hC⟩ : ∃ C, (circles x).map dLs = C := ⟨_, rfl⟩
    have hn : (C.length : Int) = nCirc x := by rw [← hC]; simp [nCirc]
    obtain ⟨n, hn'⟩ : ∃ n : Int, (nCirc x : Int) = n := ⟨_, rfl⟩
    rw [hn'] at hn ⊢
    rw [hX] at cv cc ⊢
    rw [hC] at cc
    refine ACall.enter hT (fn := Try.f31) Try.func31 rfl (by decide) (by simp [Try.f31]) rfl rfl rfl rfl (Nat.le_refl _) ?_
    repeat refine AWp.seq ?_
    refine AWp.reg1 {} hT (fun A hA => by cbv) (Nat.zero_le _) ?_
    try dsimp only [AExit.then, AExit.block]
    repeat refine AWp.seq ?_
    refine AWp.region ?_
    refine AOps.stepCall hT (an := {}) (fun A hA => by cbv) (Nat.zero_le _) rfl (.inr rfl) rfl rfl rfl (Nat.le_of_ble_eq_true rfl) rfl rfl (cv) ?_
    refine AOps.done hT (an := {}) (fun A hA => by cbv) (Nat.zero_le _) ?_
    try dsimp only [AExit.then, AExit.block]
    repeat refine AWp.seq ?_
    refine AWp.cond (b := false) rfl (AWp.skip ?_)
    try dsimp only [AExit.then, AExit.block]
    repeat refine AWp.seq ?_
    refine AWp.region ?_
    refine AOps.stepCall hT (an := {}) (fun A hA => by cbv) (Nat.zero_le _) rfl (.inr rfl) rfl rfl rfl (Nat.le_of_ble_eq_true rfl) rfl rfl (cc) ?_
    refine AOps.done hT (an := {}) (fun A hA => by
        have f0 := ar_len hA C n hn
        repeat (cbv; simp only [f0])
        cbv) (Nat.zero_le _) ?_
    try dsimp only [AExit.then, AExit.block]
    repeat refine AWp.seq ?_
    refine AWp.ret ⟨?_, rfl, rfl, Nat.zero_le _, _, rfl⟩
    rfl

theorem NeededR_ok (x : List (List Acc)) (hx : Big x) : ACall P 32 [.d (dX x)] [] (.tuple [.d (.list 3 (if valid x then (neededL x).map dSta else [])), AI (if valid x then 0 else 90)]) [] := by
  have cv := validR_ok x hx
  cases hv : valid x with
  | false =>
    rw [hv] at cv
    obtain ⟨X, hX⟩ : ∃ X, dX x = X := ⟨_, rfl⟩
    rw [hX] at cv ⊢
    refine ACall.enter hT (fn := Try.f32) Try.func32 rfl (by decide) (by simp [Try.f32]) rfl rfl rfl rfl (Nat.le_refl _) ?_
    repeat refine AWp.seq ?_
    refine AWp.reg1 {} hT (fun A hA => by cbv) (Nat.zero_le _) ?_
    try dsimp only [AExit.then, AExit.block]
    repeat refine AWp.seq ?_
    refine AWp.region ?_
    refine AOps.stepCall hT (an := {}) (fun A hA => by cbv) (Nat.zero_le _) rfl (.inr rfl) rfl rfl rfl (Nat.le_of_ble_eq_true rfl) rfl rfl (cv) ?_
    refine AOps.done hT (an := {}) (fun A hA => by cbv) (Nat.zero_le _) ?_
    try dsimp only [AExit.then, AExit.block]
    repeat refine AWp.seq ?_
    refine AWp.cond (b := true) rfl ?_
    rw [if_pos rfl]
    repeat refine AWp.seq ?_
    refine AWp.reg1 {} hT (fun A hA => by cbv) (Nat.zero_le _) ?_
    try dsimp only [AExit.then, AExit.block]
    repeat refine AWp.seq ?_
    refine AWp.ret ⟨?_, rfl, rfl, Nat.zero_le _, _, rfl⟩
    rfl
  | true =>
    rw [hv] at cv
    simp only [if_true]
    have h48 := stations_48 hv
    have hcl := circles_len hv
    have cc := neededR_ok x (valid_small hv) (by rw [stationsR_eq]; omega) (by rw [stationsR_eq]; exact fun s hs => mem_stations hs) (by rw [circlesR_eq]; omega) (by rw [circlesR_eq]; exact fun l hl => (mem_circles_iff.1 hl).2.1)
    rw [neededR_eq] at cc
    obtain ⟨X, hX⟩ : ∃ X, dX x = X := ⟨_, rfl⟩
    obtain ⟨C, hC⟩ : ∃ C, (neededL x).map dSta = C := ⟨_, rfl⟩
    rw [hX] at cv cc ⊢
    rw [hC] at cc ⊢
    refine ACall.enter hT (fn := Try.f32) Try.func32 rfl (by decide) (by simp [Try.f32]) rfl rfl rfl rfl (Nat.le_refl _) ?_
    repeat refine AWp.seq ?_
    refine AWp.reg1 {} hT (fun A hA => by cbv) (Nat.zero_le _) ?_
    try dsimp only [AExit.then, AExit.block]
    repeat refine AWp.seq ?_
    refine AWp.region ?_
    refine AOps.stepCall hT (an := {}) (fun A hA => by cbv) (Nat.zero_le _) rfl (.inr rfl) rfl rfl rfl (Nat.le_of_ble_eq_true rfl) rfl rfl (cv) ?_
    refine AOps.done hT (an := {}) (fun A hA => by cbv) (Nat.zero_le _) ?_
    try dsimp only [AExit.then, AExit.block]
    repeat refine AWp.seq ?_
    refine AWp.cond (b := false) rfl (AWp.skip ?_)
    try dsimp only [AExit.then, AExit.block]
    repeat refine AWp.seq ?_
    refine AWp.region ?_
    refine AOps.stepCall hT (an := {}) (fun A hA => by cbv) (Nat.zero_le _) rfl (.inr rfl) rfl rfl rfl (Nat.le_of_ble_eq_true rfl) rfl rfl (cc) ?_
    refine AOps.done hT (an := {}) (fun A hA => by cbv) (Nat.zero_le _) ?_
    try dsimp only [AExit.then, AExit.block]
    repeat refine AWp.seq ?_
    refine AWp.ret ⟨?_, rfl, rfl, Nat.zero_le _, _, rfl⟩
    rfl

theorem DelayCircles_ok (x : List (List Acc)) (c : List Sta) (p : Sta) (hx : Big x) (hc : c.length ≤ 9223372036854775807) : ACall P 6 [.d (dX x), .d (.list 3 (c.map dSta)), .d (dSta p)] [] (AB true) [] := by
  have clo := long_ok x hx
  have caw := awake_ok
  have c1 := IsCircle_ok x c hx hc
  have c2 := IsCircleR_ok x c hx hc
  have c3 := Circles_ok x hx
  have c4 := CirclesR_ok x hx
  have c5 := Needed_ok x hx (fun h => ⟨valid_small h, Nat.le_trans (stations_48 h) (by omega)⟩)
  have c6 := NeededR_ok x hx
  have c7 := Circle_ok x p hx
  have hdp : dSta p = .agg [I p.1, I p.2.1, I p.2.2] := rfl
  obtain ⟨C, hC⟩ : ∃ C, c.map dSta = C := ⟨_, rfl⟩
  obtain ⟨m, hm⟩ : ∃ n : Int, (C.length : Int) = n := ⟨_, rfl⟩
  rw [hC] at c1 c2 ⊢
  cases hlo : long x with
  | true =>
    rw [hlo] at clo
    obtain ⟨X, hX⟩ : ∃ X, dX x = X := ⟨_, rfl⟩
    rw [hX] at clo ⊢
    rw [hdp]
    refine ACall.enter hT (fn := Try.f6) Try.func6 rfl (by decide) (by simp [Try.f6]) rfl rfl rfl rfl (Nat.le_refl _) ?_
    repeat refine AWp.seq ?_
    refine AWp.reg1 {} hT (fun A hA => by cbv) (Nat.zero_le _) ?_
    try dsimp only [AExit.then, AExit.block]
    repeat refine AWp.seq ?_
    refine AWp.region ?_
    refine AOps.stepCall hT (an := {}) (fun A hA => by cbv) (Nat.zero_le _) rfl (.inr rfl) rfl rfl rfl (Nat.le_of_ble_eq_true rfl) rfl rfl (clo) ?_
    refine AOps.done hT (an := {}) (fun A hA => by cbv) (Nat.zero_le _) ?_
    try dsimp only [AExit.then, AExit.block]
    repeat refine AWp.seq ?_
    refine AWp.cond (b := true) rfl ?_
    rw [if_pos rfl]
    repeat refine AWp.seq ?_
    refine AWp.region ?_
    refine AOps.stepCall hT (an := {}) (fun A hA => by cbv) (Nat.zero_le _) rfl (.inr rfl) rfl rfl rfl (Nat.le_of_ble_eq_true rfl) rfl rfl (caw) ?_
    refine AOps.done hT (an := {}) (fun A hA => by cbv) (Nat.zero_le _) ?_
    try dsimp only [AExit.then, AExit.block]
    repeat refine AWp.seq ?_
    refine AWp.ret ⟨?_, rfl, rfl, Nat.zero_le _, _, rfl⟩
    rfl
  | false =>
    rw [hlo] at clo
    by_cases hm20 : 20 < m
    · obtain ⟨X, hX⟩ : ∃ X, dX x = X := ⟨_, rfl⟩
      rw [hX] at clo ⊢
      rw [hdp]
      refine ACall.enter hT (fn := Try.f6) Try.func6 rfl (by decide) (by simp [Try.f6]) rfl rfl rfl rfl (Nat.le_refl _) ?_
      repeat refine AWp.seq ?_
      refine AWp.reg1 {} hT (fun A hA => by cbv) (Nat.zero_le _) ?_
      try dsimp only [AExit.then, AExit.block]
      repeat refine AWp.seq ?_
      refine AWp.region ?_
      refine AOps.stepCall hT (an := {}) (fun A hA => by cbv) (Nat.zero_le _) rfl (.inr rfl) rfl rfl rfl (Nat.le_of_ble_eq_true rfl) rfl rfl (clo) ?_
      refine AOps.done hT (an := {}) (fun A hA => by
          have f0 := ar_len hA C m hm
          have f1 := ar_lt hA hm20
          repeat (cbv; simp only [f0, f1])
          cbv) (Nat.zero_le _) ?_
      try dsimp only [AExit.then, AExit.block]
      repeat refine AWp.seq ?_
      refine AWp.cond (b := true) rfl ?_
      rw [if_pos rfl]
      repeat refine AWp.seq ?_
      refine AWp.region ?_
      refine AOps.stepCall hT (an := {}) (fun A hA => by cbv) (Nat.zero_le _) rfl (.inr rfl) rfl rfl rfl (Nat.le_of_ble_eq_true rfl) rfl rfl (caw) ?_
      refine AOps.done hT (an := {}) (fun A hA => by cbv) (Nat.zero_le _) ?_
      try dsimp only [AExit.then, AExit.block]
      repeat refine AWp.seq ?_
      refine AWp.ret ⟨?_, rfl, rfl, Nat.zero_le _, _, rfl⟩
      rfl
    cases hv : valid x with
    | false =>
      have c8 := sameStations_ok [] [] (by simp)
      rw [decide_eq_true rfl] at c8
      unfold circT at c7
      rw [hv] at c1 c2 c3 c4 c5 c6 c7
      simp only [Bool.false_eq_true, if_false] at c1 c2 c3 c4 c5 c6 c7
      simp only [List.map_nil] at c8
      obtain ⟨X, hX⟩ : ∃ X, dX x = X := ⟨_, rfl⟩
      rw [hX] at clo c1 c2 c3 c4 c5 c6 c7 ⊢
      rw [hdp] at c7 ⊢
      have hff : (false == false) = true := rfl
      refine ACall.enter hT (fn := Try.f6) Try.func6 rfl (by decide) (by simp [Try.f6]) rfl rfl rfl rfl (Nat.le_refl _) ?_
      repeat refine AWp.seq ?_
      refine AWp.reg1 {} hT (fun A hA => by cbv) (Nat.zero_le _) ?_
      try dsimp only [AExit.then, AExit.block]
      repeat refine AWp.seq ?_
      refine AWp.region ?_
      refine AOps.stepCall hT (an := {}) (fun A hA => by cbv) (Nat.zero_le _) rfl (.inr rfl) rfl rfl rfl (Nat.le_of_ble_eq_true rfl) rfl rfl (clo) ?_
      refine AOps.done hT (an := {}) (fun A hA => by
          have f0 := ar_len hA C m hm
          have f1 := ar_nlt hA hm20
          repeat (cbv; simp only [f0, f1])
          cbv) (Nat.zero_le _) ?_
      try dsimp only [AExit.then, AExit.block]
      repeat refine AWp.seq ?_
      refine AWp.cond (b := false) rfl (AWp.skip ?_)
      try dsimp only [AExit.then, AExit.block]
      repeat refine AWp.seq ?_
      refine AWp.region ?_
      refine AOps.stepCall hT (an := {}) (fun A hA => by cbv) (Nat.zero_le _) rfl (.inr rfl) rfl rfl rfl (Nat.le_of_ble_eq_true rfl) rfl rfl (c1) ?_
      refine AOps.done hT (an := {}) (fun A hA => by cbv) (Nat.zero_le _) ?_
      try dsimp only [AExit.then, AExit.block]
      repeat refine AWp.seq ?_
      refine AWp.region ?_
      refine AOps.stepCall hT (an := {}) (fun A hA => by cbv) (Nat.zero_le _) rfl (.inr rfl) rfl rfl rfl (Nat.le_of_ble_eq_true rfl) rfl rfl (c2) ?_
      refine AOps.done hT (an := {}) (fun A hA => by cbv) (Nat.zero_le _) ?_
      try dsimp only [AExit.then, AExit.block]
      repeat refine AWp.seq ?_
      refine AWp.region ?_
      refine AOps.stepCall hT (an := {}) (fun A hA => by cbv) (Nat.zero_le _) rfl (.inr rfl) rfl rfl rfl (Nat.le_of_ble_eq_true rfl) rfl rfl (c3) ?_
      refine AOps.done hT (an := {}) (fun A hA => by cbv) (Nat.zero_le _) ?_
      try dsimp only [AExit.then, AExit.block]
      repeat refine AWp.seq ?_
      refine AWp.region ?_
      refine AOps.stepCall hT (an := {}) (fun A hA => by cbv) (Nat.zero_le _) rfl (.inr rfl) rfl rfl rfl (Nat.le_of_ble_eq_true rfl) rfl rfl (c4) ?_
      refine AOps.done hT (an := {}) (fun A hA => by cbv) (Nat.zero_le _) ?_
      try dsimp only [AExit.then, AExit.block]
      repeat refine AWp.seq ?_
      refine AWp.reg1 {} hT (fun A hA => by
          have f0 := ar_beq hA hff
          have f1 := ar_eq hA (rfl : (90 : Int) = 90)
          have f2 := ar_eq hA (rfl : (0 : Int) = 0)
          repeat (cbv; simp only [f0, f1, f2])
          cbv) (Nat.zero_le _) ?_
      try dsimp only [AExit.then, AExit.block]
      repeat refine AWp.seq ?_
      refine AWp.cond (b := false) rfl (AWp.skip ?_)
      try dsimp only [AExit.then, AExit.block]
      repeat refine AWp.seq ?_
      refine AWp.region ?_
      refine AOps.stepCall hT (an := {}) (fun A hA => by cbv) (Nat.zero_le _) rfl (.inr rfl) rfl rfl rfl (Nat.le_of_ble_eq_true rfl) rfl rfl (c5) ?_
      refine AOps.done hT (an := {}) (fun A hA => by cbv) (Nat.zero_le _) ?_
      try dsimp only [AExit.then, AExit.block]
      repeat refine AWp.seq ?_
      refine AWp.region ?_
      refine AOps.stepCall hT (an := {}) (fun A hA => by cbv) (Nat.zero_le _) rfl (.inr rfl) rfl rfl rfl (Nat.le_of_ble_eq_true rfl) rfl rfl (c6) ?_
      refine AOps.done hT (an := {}) (fun A hA => by cbv) (Nat.zero_le _) ?_
      try dsimp only [AExit.then, AExit.block]
      repeat refine AWp.seq ?_
      refine AWp.region ?_
      refine AOps.stepCall hT (an := {}) (fun A hA => by cbv) (Nat.zero_le _) rfl (.inr rfl) rfl rfl rfl (Nat.le_of_ble_eq_true rfl) rfl rfl (c8) ?_
      refine AOps.done hT (an := {}) (fun A hA => by
          have f0 := ar_eq hA (rfl : (90 : Int) = 90)
          repeat (cbv; simp only [f0])
          cbv) (Nat.zero_le _) ?_
      try dsimp only [AExit.then, AExit.block]
      repeat refine AWp.seq ?_
      refine AWp.cond (b := false) rfl (AWp.skip ?_)
      try dsimp only [AExit.then, AExit.block]
      repeat refine AWp.seq ?_
      refine AWp.region ?_
      refine AOps.stepCall hT (an := {}) (fun A hA => by cbv) (Nat.zero_le _) rfl (.inr rfl) rfl rfl rfl (Nat.le_of_ble_eq_true rfl) rfl rfl (c7) ?_
      refine AOps.done hT (an := {}) (fun A hA => by cbv) (Nat.zero_le _) ?_
      try dsimp only [AExit.then, AExit.block]
      repeat refine AWp.seq ?_
      refine AWp.reg1 {} hT (fun A hA => by
          have f0 := ar_ne hA (show ¬ (90 : Int) = 0 by omega)
          repeat (cbv; simp only [f0])
          cbv) (Nat.zero_le _) ?_
      try dsimp only [AExit.then, AExit.block]
      repeat refine AWp.seq ?_
      refine AWp.cond (b := true) rfl ?_
      rw [if_pos rfl]
      repeat refine AWp.seq ?_
      refine AWp.region ?_
      refine AOps.stepCall hT (an := {}) (fun A hA => by
          have f0 := ar_eq hA (rfl : (90 : Int) = 90)
          have f1 := ar_eq hA (rfl : (0 : Int) = 0)
          have f2 := ar_len hA [] 0 rfl
          repeat (cbv; simp only [f0, f1, f2])
          cbv) (Nat.zero_le _) rfl (.inr rfl) rfl rfl rfl (Nat.le_of_ble_eq_true rfl) rfl rfl (caw) ?_
      refine AOps.done hT (an := {}) (fun A hA => by cbv) (Nat.zero_le _) ?_
      try dsimp only [AExit.then, AExit.block]
      repeat refine AWp.seq ?_
      refine AWp.ret ⟨?_, rfl, rfl, Nat.zero_le _, _, rfl⟩
      rfl
    | true =>
      have hsm := valid_small hv
      have hnl : (neededL x).length ≤ 48 := Nat.le_trans (List.length_filter_le _ _) (Nat.le_trans (List.length_filter_le _ _) (stations_48 hv))
      have c8 := sameStations_ok (neededL x) (neededL x) (by omega)
      have c9 := isPairR_ok x p.1 p.2.1 p.2.2 hsm
      have c10 := in_sta_ok (neededL x) p (by omega)
      rw [decide_eq_true rfl] at c8
      unfold circT at c7
      rw [hv] at c1 c2 c3 c4 c5 c6 c7
      simp only [if_true] at c1 c2 c3 c4 c5 c6 c7
      have hff : ∀ b : Bool, (b == b) = true := fun b => by cases b <;> rfl
      obtain ⟨b1, hb1⟩ : ∃ b, isCircF x c = b := ⟨_, rfl⟩
      obtain ⟨n1, hn1⟩ : ∃ b : Int, (nCirc x : Int) = b := ⟨_, rfl⟩
      obtain ⟨Q, hQ⟩ : ∃ Q, (neededL x).map dSta = Q := ⟨_, rfl⟩
      rw [hb1] at c1 c2
      rw [hn1] at c3 c4
      rw [hQ] at c5 c6 c8 c10
      rw [hdp] at c10
      have hpp : (p.1, p.2.1, p.2.2) = p := rfl
      rw [hpp] at c9
      cases hpr : isPair x p with
      | false =>
        rw [hpr] at c7 c9
        simp only [Bool.false_eq_true, if_false] at c7
        obtain ⟨X, hX⟩ : ∃ X, dX x = X := ⟨_, rfl⟩
        rw [hX] at clo c1 c2 c3 c4 c5 c6 c7 c9 ⊢
        rw [hdp] at c7 ⊢
        refine ACall.enter hT (fn := Try.f6) Try.func6 rfl (by decide) (by simp [Try.f6]) rfl rfl rfl rfl (Nat.le_refl _) ?_
        repeat refine AWp.seq ?_
        refine AWp.reg1 {} hT (fun A hA => by cbv) (Nat.zero_le _) ?_
        try dsimp only [AExit.then, AExit.block]
        repeat refine AWp.seq ?_
        refine AWp.region ?_
        refine AOps.stepCall hT (an := {}) (fun A hA => by cbv) (Nat.zero_le _) rfl (.inr rfl) rfl rfl rfl (Nat.le_of_ble_eq_true rfl) rfl rfl (clo) ?_
        refine AOps.done hT (an := {}) (fun A hA => by
            have f0 := ar_len hA C m hm
            have f1 := ar_nlt hA hm20
            repeat (cbv; simp only [f0, f1])
            cbv) (Nat.zero_le _) ?_
        try dsimp only [AExit.then, AExit.block]
        repeat refine AWp.seq ?_
        refine AWp.cond (b := false) rfl (AWp.skip ?_)
        try dsimp only [AExit.then, AExit.block]
        repeat refine AWp.seq ?_
        refine AWp.region ?_
        refine AOps.stepCall hT (an := {}) (fun A hA => by cbv) (Nat.zero_le _) rfl (.inr rfl) rfl rfl rfl (Nat.le_of_ble_eq_true rfl) rfl rfl (c1) ?_
        refine AOps.done hT (an := {}) (fun A hA => by cbv) (Nat.zero_le _) ?_
        try dsimp only [AExit.then, AExit.block]
        repeat refine AWp.seq ?_
        refine AWp.region ?_
        refine AOps.stepCall hT (an := {}) (fun A hA => by cbv) (Nat.zero_le _) rfl (.inr rfl) rfl rfl rfl (Nat.le_of_ble_eq_true rfl) rfl rfl (c2) ?_
        refine AOps.done hT (an := {}) (fun A hA => by cbv) (Nat.zero_le _) ?_
        try dsimp only [AExit.then, AExit.block]
        repeat refine AWp.seq ?_
        refine AWp.region ?_
        refine AOps.stepCall hT (an := {}) (fun A hA => by cbv) (Nat.zero_le _) rfl (.inr rfl) rfl rfl rfl (Nat.le_of_ble_eq_true rfl) rfl rfl (c3) ?_
        refine AOps.done hT (an := {}) (fun A hA => by cbv) (Nat.zero_le _) ?_
        try dsimp only [AExit.then, AExit.block]
        repeat refine AWp.seq ?_
        refine AWp.region ?_
        refine AOps.stepCall hT (an := {}) (fun A hA => by cbv) (Nat.zero_le _) rfl (.inr rfl) rfl rfl rfl (Nat.le_of_ble_eq_true rfl) rfl rfl (c4) ?_
        refine AOps.done hT (an := {}) (fun A hA => by cbv) (Nat.zero_le _) ?_
        try dsimp only [AExit.then, AExit.block]
        repeat refine AWp.seq ?_
        refine AWp.reg1 {} hT (fun A hA => by
            have f0 := ar_beq hA (hff b1)
            have f1 := ar_eq hA (rfl : n1 = n1)
            have f2 := ar_eq hA (rfl : (0 : Int) = 0)
            repeat (cbv; simp only [f0, f1, f2])
            cbv) (Nat.zero_le _) ?_
        try dsimp only [AExit.then, AExit.block]
        repeat refine AWp.seq ?_
        refine AWp.cond (b := false) rfl (AWp.skip ?_)
        try dsimp only [AExit.then, AExit.block]
        repeat refine AWp.seq ?_
        refine AWp.region ?_
        refine AOps.stepCall hT (an := {}) (fun A hA => by cbv) (Nat.zero_le _) rfl (.inr rfl) rfl rfl rfl (Nat.le_of_ble_eq_true rfl) rfl rfl (c5) ?_
        refine AOps.done hT (an := {}) (fun A hA => by cbv) (Nat.zero_le _) ?_
        try dsimp only [AExit.then, AExit.block]
        repeat refine AWp.seq ?_
        refine AWp.region ?_
        refine AOps.stepCall hT (an := {}) (fun A hA => by cbv) (Nat.zero_le _) rfl (.inr rfl) rfl rfl rfl (Nat.le_of_ble_eq_true rfl) rfl rfl (c6) ?_
        refine AOps.done hT (an := {}) (fun A hA => by cbv) (Nat.zero_le _) ?_
        try dsimp only [AExit.then, AExit.block]
        repeat refine AWp.seq ?_
        refine AWp.region ?_
        refine AOps.stepCall hT (an := {}) (fun A hA => by cbv) (Nat.zero_le _) rfl (.inr rfl) rfl rfl rfl (Nat.le_of_ble_eq_true rfl) rfl rfl (c8) ?_
        refine AOps.done hT (an := {}) (fun A hA => by
            have f0 := ar_eq hA (rfl : (0 : Int) = 0)
            repeat (cbv; simp only [f0])
            cbv) (Nat.zero_le _) ?_
        try dsimp only [AExit.then, AExit.block]
        repeat refine AWp.seq ?_
        refine AWp.cond (b := false) rfl (AWp.skip ?_)
        try dsimp only [AExit.then, AExit.block]
        repeat refine AWp.seq ?_
        refine AWp.region ?_
        refine AOps.stepCall hT (an := {}) (fun A hA => by cbv) (Nat.zero_le _) rfl (.inr rfl) rfl rfl rfl (Nat.le_of_ble_eq_true rfl) rfl rfl (c7) ?_
        refine AOps.done hT (an := {}) (fun A hA => by cbv) (Nat.zero_le _) ?_
        try dsimp only [AExit.then, AExit.block]
        repeat refine AWp.seq ?_
        refine AWp.reg1 {} hT (fun A hA => by
            have f0 := ar_eq hA (rfl : (0 : Int) = 0)
            repeat (cbv; simp only [f0])
            cbv) (Nat.zero_le _) ?_
        try dsimp only [AExit.then, AExit.block]
        repeat refine AWp.seq ?_
        refine AWp.cond (b := false) rfl (AWp.skip ?_)
        try dsimp only [AExit.then, AExit.block]
        repeat refine AWp.seq ?_
        refine AWp.region ?_
        refine AOps.stepCall hT (an := {}) (fun A hA => by cbv) (Nat.zero_le _) rfl (.inr rfl) rfl rfl rfl (Nat.le_of_ble_eq_true rfl) rfl rfl (c9) ?_
        refine AOps.done hT (an := {}) (fun A hA => by cbv) (Nat.zero_le _) ?_
        try dsimp only [AExit.then, AExit.block]
        repeat refine AWp.seq ?_
        refine AWp.cond (b := true) rfl ?_
        rw [if_pos rfl]
        repeat refine AWp.seq ?_
        refine AWp.region ?_
        refine AOps.stepCall hT (an := {}) (fun A hA => by
            have f0 := ar_eq hA (rfl : (2 : Int) = 2)
            have f1 := ar_eq hA (rfl : (0 : Int) = 0)
            have f2 := ar_len hA [] 0 rfl
            repeat (cbv; simp only [f0, f1, f2])
            cbv) (Nat.zero_le _) rfl (.inr rfl) rfl rfl rfl (Nat.le_of_ble_eq_true rfl) rfl rfl (caw) ?_
        refine AOps.done hT (an := {}) (fun A hA => by cbv) (Nat.zero_le _) ?_
        try dsimp only [AExit.then, AExit.block]
        repeat refine AWp.seq ?_
        refine AWp.ret ⟨?_, rfl, rfl, Nat.zero_le _, _, rfl⟩
        rfl
      | true =>
        rw [hpr] at c7 c9
        simp only [if_true] at c7
        cases hne : (neededL x).contains p with
        | false =>
          rw [hne] at c10
          have hnone : (circles x).find? (fun l => l.contains p) = none := by
            rw [List.find?_eq_none]
            intro l hl hp
            rw [List.contains_eq_mem, decide_eq_true_eq] at hp
            rw [List.contains_eq_mem, decide_eq_false_iff_not] at hne
            exact hne ((mem_needed_iff x).2 ⟨(mem_circles_iff.1 hl).2.2.1 p hp, hpr, l, hl, hp⟩)
          rw [hnone] at c7
          simp only at c7
          obtain ⟨X, hX⟩ : ∃ X, dX x = X := ⟨_, rfl⟩
          rw [hX] at clo c1 c2 c3 c4 c5 c6 c7 c9 ⊢
          rw [hdp] at c7 ⊢
          refine ACall.enter hT (fn := Try.f6) Try.func6 rfl (by decide) (by simp [Try.f6]) rfl rfl rfl rfl (Nat.le_refl _) ?_
          repeat refine AWp.seq ?_
          refine AWp.reg1 {} hT (fun A hA => by cbv) (Nat.zero_le _) ?_
          try dsimp only [AExit.then, AExit.block]
          repeat refine AWp.seq ?_
          refine AWp.region ?_
          refine AOps.stepCall hT (an := {}) (fun A hA => by cbv) (Nat.zero_le _) rfl (.inr rfl) rfl rfl rfl (Nat.le_of_ble_eq_true rfl) rfl rfl (clo) ?_
          refine AOps.done hT (an := {}) (fun A hA => by
              have f0 := ar_len hA C m hm
              have f1 := ar_nlt hA hm20
              repeat (cbv; simp only [f0, f1])
              cbv) (Nat.zero_le _) ?_
          try dsimp only [AExit.then, AExit.block]
          repeat refine AWp.seq ?_
          refine AWp.cond (b := false) rfl (AWp.skip ?_)
          try dsimp only [AExit.then, AExit.block]
          repeat refine AWp.seq ?_
          refine AWp.region ?_
          refine AOps.stepCall hT (an := {}) (fun A hA => by cbv) (Nat.zero_le _) rfl (.inr rfl) rfl rfl rfl (Nat.le_of_ble_eq_true rfl) rfl rfl (c1) ?_
          refine AOps.done hT (an := {}) (fun A hA => by cbv) (Nat.zero_le _) ?_
          try dsimp only [AExit.then, AExit.block]
          repeat refine AWp.seq ?_
          refine AWp.region ?_
          refine AOps.stepCall hT (an := {}) (fun A hA => by cbv) (Nat.zero_le _) rfl (.inr rfl) rfl rfl rfl (Nat.le_of_ble_eq_true rfl) rfl rfl (c2) ?_
          refine AOps.done hT (an := {}) (fun A hA => by cbv) (Nat.zero_le _) ?_
          try dsimp only [AExit.then, AExit.block]
          repeat refine AWp.seq ?_
          refine AWp.region ?_
          refine AOps.stepCall hT (an := {}) (fun A hA => by cbv) (Nat.zero_le _) rfl (.inr rfl) rfl rfl rfl (Nat.le_of_ble_eq_true rfl) rfl rfl (c3) ?_
          refine AOps.done hT (an := {}) (fun A hA => by cbv) (Nat.zero_le _) ?_
          try dsimp only [AExit.then, AExit.block]
          repeat refine AWp.seq ?_
          refine AWp.region ?_
          refine AOps.stepCall hT (an := {}) (fun A hA => by cbv) (Nat.zero_le _) rfl (.inr rfl) rfl rfl rfl (Nat.le_of_ble_eq_true rfl) rfl rfl (c4) ?_
          refine AOps.done hT (an := {}) (fun A hA => by cbv) (Nat.zero_le _) ?_
          try dsimp only [AExit.then, AExit.block]
          repeat refine AWp.seq ?_
          refine AWp.reg1 {} hT (fun A hA => by
              have f0 := ar_beq hA (hff b1)
              have f1 := ar_eq hA (rfl : n1 = n1)
              have f2 := ar_eq hA (rfl : (0 : Int) = 0)
              repeat (cbv; simp only [f0, f1, f2])
              cbv) (Nat.zero_le _) ?_
          try dsimp only [AExit.then, AExit.block]
          repeat refine AWp.seq ?_
          refine AWp.cond (b := false) rfl (AWp.skip ?_)
          try dsimp only [AExit.then, AExit.block]
          repeat refine AWp.seq ?_
          refine AWp.region ?_
          refine AOps.stepCall hT (an := {}) (fun A hA => by cbv) (Nat.zero_le _) rfl (.inr rfl) rfl rfl rfl (Nat.le_of_ble_eq_true rfl) rfl rfl (c5) ?_
          refine AOps.done hT (an := {}) (fun A hA => by cbv) (Nat.zero_le _) ?_
          try dsimp only [AExit.then, AExit.block]
          repeat refine AWp.seq ?_
          refine AWp.region ?_
          refine AOps.stepCall hT (an := {}) (fun A hA => by cbv) (Nat.zero_le _) rfl (.inr rfl) rfl rfl rfl (Nat.le_of_ble_eq_true rfl) rfl rfl (c6) ?_
          refine AOps.done hT (an := {}) (fun A hA => by cbv) (Nat.zero_le _) ?_
          try dsimp only [AExit.then, AExit.block]
          repeat refine AWp.seq ?_
          refine AWp.region ?_
          refine AOps.stepCall hT (an := {}) (fun A hA => by cbv) (Nat.zero_le _) rfl (.inr rfl) rfl rfl rfl (Nat.le_of_ble_eq_true rfl) rfl rfl (c8) ?_
          refine AOps.done hT (an := {}) (fun A hA => by
              have f0 := ar_eq hA (rfl : (0 : Int) = 0)
              repeat (cbv; simp only [f0])
              cbv) (Nat.zero_le _) ?_
          try dsimp only [AExit.then, AExit.block]
          repeat refine AWp.seq ?_
          refine AWp.cond (b := false) rfl (AWp.skip ?_)
          try dsimp only [AExit.then, AExit.block]
          repeat refine AWp.seq ?_
          refine AWp.region ?_
          refine AOps.stepCall hT (an := {}) (fun A hA => by cbv) (Nat.zero_le _) rfl (.inr rfl) rfl rfl rfl (Nat.le_of_ble_eq_true rfl) rfl rfl (c7) ?_
          refine AOps.done hT (an := {}) (fun A hA => by cbv) (Nat.zero_le _) ?_
          try dsimp only [AExit.then, AExit.block]
          repeat refine AWp.seq ?_
          refine AWp.reg1 {} hT (fun A hA => by
              have f0 := ar_eq hA (rfl : (0 : Int) = 0)
              repeat (cbv; simp only [f0])
              cbv) (Nat.zero_le _) ?_
          try dsimp only [AExit.then, AExit.block]
          repeat refine AWp.seq ?_
          refine AWp.cond (b := false) rfl (AWp.skip ?_)
          try dsimp only [AExit.then, AExit.block]
          repeat refine AWp.seq ?_
          refine AWp.region ?_
          refine AOps.stepCall hT (an := {}) (fun A hA => by cbv) (Nat.zero_le _) rfl (.inr rfl) rfl rfl rfl (Nat.le_of_ble_eq_true rfl) rfl rfl (c9) ?_
          refine AOps.done hT (an := {}) (fun A hA => by cbv) (Nat.zero_le _) ?_
          try dsimp only [AExit.then, AExit.block]
          repeat refine AWp.seq ?_
          refine AWp.cond (b := false) rfl (AWp.skip ?_)
          try dsimp only [AExit.then, AExit.block]
          repeat refine AWp.seq ?_
          refine AWp.region ?_
          refine AOps.stepCall hT (an := {}) (fun A hA => by cbv) (Nat.zero_le _) rfl (.inr rfl) rfl rfl rfl (Nat.le_of_ble_eq_true rfl) rfl rfl (c10) ?_
          refine AOps.done hT (an := {}) (fun A hA => by cbv) (Nat.zero_le _) ?_
          try dsimp only [AExit.then, AExit.block]
          repeat refine AWp.seq ?_
          refine AWp.cond (b := true) rfl ?_
          rw [if_pos rfl]
          repeat refine AWp.seq ?_
          refine AWp.region ?_
          refine AOps.stepCall hT (an := {}) (fun A hA => by
              have f0 := ar_eq hA (rfl : (5 : Int) = 5)
              have f1 := ar_eq hA (rfl : (0 : Int) = 0)
              have f2 := ar_len hA [] 0 rfl
              repeat (cbv; simp only [f0, f1, f2])
              cbv) (Nat.zero_le _) rfl (.inr rfl) rfl rfl rfl (Nat.le_of_ble_eq_true rfl) rfl rfl (caw) ?_
          refine AOps.done hT (an := {}) (fun A hA => by cbv) (Nat.zero_le _) ?_
          try dsimp only [AExit.then, AExit.block]
          repeat refine AWp.seq ?_
          refine AWp.ret ⟨?_, rfl, rfl, Nat.zero_le _, _, rfl⟩
          rfl
        | true =>
          rw [hne] at c10
          obtain ⟨l, hf, hl, hlp⟩ := needed_find (x := x) (s := p) (by rwa [List.contains_eq_mem, decide_eq_true_eq] at hne)
          have hl3 := (mem_circles_iff.1 hl).2.1
          rw [hf] at c7
          simp only at c7
          have c11 := IsCircleR_ok x l hx (by omega)
          rw [if_pos hv, circles_isCircF.1 hl] at c11
          have c12 := in_sta_ok l p (by omega)
          rw [hlp, hdp] at c12
          obtain ⟨LL, hLL⟩ : ∃ L, l.map dSta = L := ⟨_, rfl⟩
          rw [hLL] at c7 c11 c12
          obtain ⟨X, hX⟩ : ∃ X, dX x = X := ⟨_, rfl⟩
          rw [hX] at clo c1 c2 c3 c4 c5 c6 c7 c9 c11 ⊢
          rw [hdp] at c7 ⊢
          refine ACall.enter hT (fn := Try.f6) Try.func6 rfl (by decide) (by simp [Try.f6]) rfl rfl rfl rfl (Nat.le_refl _) ?_
          repeat refine AWp.seq ?_
          refine AWp.reg1 {} hT (fun A hA => by cbv) (Nat.zero_le _) ?_
          try dsimp only [AExit.then, AExit.block]
          repeat refine AWp.seq ?_
          refine AWp.region ?_
          refine AOps.stepCall hT (an := {}) (fun A hA => by cbv) (Nat.zero_le _) rfl (.inr rfl) rfl rfl rfl (Nat.le_of_ble_eq_true rfl) rfl rfl (clo) ?_
          refine AOps.done hT (an := {}) (fun A hA => by
              have f0 := ar_len hA C m hm
              have f1 := ar_nlt hA hm20
              repeat (cbv; simp only [f0, f1])
              cbv) (Nat.zero_le _) ?_
          try dsimp only [AExit.then, AExit.block]
          repeat refine AWp.seq ?_
          refine AWp.cond (b := false) rfl (AWp.skip ?_)
          try dsimp only [AExit.then, AExit.block]
          repeat refine AWp.seq ?_
          refine AWp.region ?_
          refine AOps.stepCall hT (an := {}) (fun A hA => by cbv) (Nat.zero_le _) rfl (.inr rfl) rfl rfl rfl (Nat.le_of_ble_eq_true rfl) rfl rfl (c1) ?_
          refine AOps.done hT (an := {}) (fun A hA => by cbv) (Nat.zero_le _) ?_
          try dsimp only [AExit.then, AExit.block]
          repeat refine AWp.seq ?_
          refine AWp.region ?_
          refine AOps.stepCall hT (an := {}) (fun A hA => by cbv) (Nat.zero_le _) rfl (.inr rfl) rfl rfl rfl (Nat.le_of_ble_eq_true rfl) rfl rfl (c2) ?_
          refine AOps.done hT (an := {}) (fun A hA => by cbv) (Nat.zero_le _) ?_
          try dsimp only [AExit.then, AExit.block]
          repeat refine AWp.seq ?_
          refine AWp.region ?_
          refine AOps.stepCall hT (an := {}) (fun A hA => by cbv) (Nat.zero_le _) rfl (.inr rfl) rfl rfl rfl (Nat.le_of_ble_eq_true rfl) rfl rfl (c3) ?_
          refine AOps.done hT (an := {}) (fun A hA => by cbv) (Nat.zero_le _) ?_
          try dsimp only [AExit.then, AExit.block]
          repeat refine AWp.seq ?_
          refine AWp.region ?_
          refine AOps.stepCall hT (an := {}) (fun A hA => by cbv) (Nat.zero_le _) rfl (.inr rfl) rfl rfl rfl (Nat.le_of_ble_eq_true rfl) rfl rfl (c4) ?_
          refine AOps.done hT (an := {}) (fun A hA => by cbv) (Nat.zero_le _) ?_
          try dsimp only [AExit.then, AExit.block]
          repeat refine AWp.seq ?_
          refine AWp.reg1 {} hT (fun A hA => by
              have f0 := ar_beq hA (hff b1)
              have f1 := ar_eq hA (rfl : n1 = n1)
              have f2 := ar_eq hA (rfl : (0 : Int) = 0)
              repeat (cbv; simp only [f0, f1, f2])
              cbv) (Nat.zero_le _) ?_
          try dsimp only [AExit.then, AExit.block]
          repeat refine AWp.seq ?_
          refine AWp.cond (b := false) rfl (AWp.skip ?_)
          try dsimp only [AExit.then, AExit.block]
          repeat refine AWp.seq ?_
          refine AWp.region ?_
          refine AOps.stepCall hT (an := {}) (fun A hA => by cbv) (Nat.zero_le _) rfl (.inr rfl) rfl rfl rfl (Nat.le_of_ble_eq_true rfl) rfl rfl (c5) ?_
          refine AOps.done hT (an := {}) (fun A hA => by cbv) (Nat.zero_le _) ?_
          try dsimp only [AExit.then, AExit.block]
          repeat refine AWp.seq ?_
          refine AWp.region ?_
          refine AOps.stepCall hT (an := {}) (fun A hA => by cbv) (Nat.zero_le _) rfl (.inr rfl) rfl rfl rfl (Nat.le_of_ble_eq_true rfl) rfl rfl (c6) ?_
          refine AOps.done hT (an := {}) (fun A hA => by cbv) (Nat.zero_le _) ?_
          try dsimp only [AExit.then, AExit.block]
          repeat refine AWp.seq ?_
          refine AWp.region ?_
          refine AOps.stepCall hT (an := {}) (fun A hA => by cbv) (Nat.zero_le _) rfl (.inr rfl) rfl rfl rfl (Nat.le_of_ble_eq_true rfl) rfl rfl (c8) ?_
          refine AOps.done hT (an := {}) (fun A hA => by
              have f0 := ar_eq hA (rfl : (0 : Int) = 0)
              repeat (cbv; simp only [f0])
              cbv) (Nat.zero_le _) ?_
          try dsimp only [AExit.then, AExit.block]
          repeat refine AWp.seq ?_
          refine AWp.cond (b := false) rfl (AWp.skip ?_)
          try dsimp only [AExit.then, AExit.block]
          repeat refine AWp.seq ?_
          refine AWp.region ?_
          refine AOps.stepCall hT (an := {}) (fun A hA => by cbv) (Nat.zero_le _) rfl (.inr rfl) rfl rfl rfl (Nat.le_of_ble_eq_true rfl) rfl rfl (c7) ?_
          refine AOps.done hT (an := {}) (fun A hA => by cbv) (Nat.zero_le _) ?_
          try dsimp only [AExit.then, AExit.block]
          repeat refine AWp.seq ?_
          refine AWp.reg1 {} hT (fun A hA => by
              have f0 := ar_eq hA (rfl : (0 : Int) = 0)
              repeat (cbv; simp only [f0])
              cbv) (Nat.zero_le _) ?_
          try dsimp only [AExit.then, AExit.block]
          repeat refine AWp.seq ?_
          refine AWp.cond (b := false) rfl (AWp.skip ?_)
          try dsimp only [AExit.then, AExit.block]
          repeat refine AWp.seq ?_
          refine AWp.region ?_
          refine AOps.stepCall hT (an := {}) (fun A hA => by cbv) (Nat.zero_le _) rfl (.inr rfl) rfl rfl rfl (Nat.le_of_ble_eq_true rfl) rfl rfl (c9) ?_
          refine AOps.done hT (an := {}) (fun A hA => by cbv) (Nat.zero_le _) ?_
          try dsimp only [AExit.then, AExit.block]
          repeat refine AWp.seq ?_
          refine AWp.cond (b := false) rfl (AWp.skip ?_)
          try dsimp only [AExit.then, AExit.block]
          repeat refine AWp.seq ?_
          refine AWp.region ?_
          refine AOps.stepCall hT (an := {}) (fun A hA => by cbv) (Nat.zero_le _) rfl (.inr rfl) rfl rfl rfl (Nat.le_of_ble_eq_true rfl) rfl rfl (c10) ?_
          refine AOps.done hT (an := {}) (fun A hA => by cbv) (Nat.zero_le _) ?_
          try dsimp only [AExit.then, AExit.block]
          repeat refine AWp.seq ?_
          refine AWp.cond (b := false) rfl (AWp.skip ?_)
          try dsimp only [AExit.then, AExit.block]
          repeat refine AWp.seq ?_
          refine AWp.region ?_
          refine AOps.stepCall hT (an := {}) (fun A hA => by cbv) (Nat.zero_le _) rfl (.inr rfl) rfl rfl rfl (Nat.le_of_ble_eq_true rfl) rfl rfl (c11) ?_
          refine AOps.done hT (an := {}) (fun A hA => by cbv) (Nat.zero_le _) ?_
          try dsimp only [AExit.then, AExit.block]
          repeat refine AWp.seq ?_
          refine AWp.region ?_
          refine AOps.stepCall hT (an := {}) (fun A hA => by
              have f0 := ar_eq hA (rfl : (0 : Int) = 0)
              repeat (cbv; simp only [f0])
              cbv) (Nat.zero_le _) rfl (.inr rfl) rfl rfl rfl (Nat.le_of_ble_eq_true rfl) rfl rfl (c12) ?_
          refine AOps.stepCall hT (an := {}) (fun A hA => by cbv) (Nat.zero_le _) rfl (.inr rfl) rfl rfl rfl (Nat.le_of_ble_eq_true rfl) rfl rfl (caw) ?_
          refine AOps.done hT (an := {}) (fun A hA => by cbv) (Nat.zero_le _) ?_
          try dsimp only [AExit.then, AExit.block]
          repeat refine AWp.seq ?_
          refine AWp.ret ⟨?_, rfl, rfl, Nat.zero_le _, _, rfl⟩
          rfl
end Go.Am
