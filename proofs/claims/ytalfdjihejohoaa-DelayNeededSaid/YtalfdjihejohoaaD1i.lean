/- Own text: D1i. -/
import Derived.Test.YtalfdjihejohoaaD1h
set_option maxRecDepth 100000
set_option linter.unusedVariables false
set_option linter.unusedSimpArgs false
namespace Go.Am
open Go Go.Proofs

/-- Going over circles until one is the last. -/
def runY {S : Type} (step : S → List Sta → S × Bool) : S → List (List Sta) → S × Bool
  | s, [] => (s, true)
  | s, l :: r => if (step s l).2 then runY step (step s l).1 r else ((step s l).1, false)
theorem runY_append {S : Type} (step : S → List Sta → S × Bool) : ∀ (s : S) (a b : List (List Sta)), runY step s (a ++ b) = if (runY step s a).2 then runY step (runY step s a).1 b else runY step s a
  | s, [], b => by simp [runY]
  | s, l :: r, b => by
    simp only [List.cons_append, runY]
    split
    · exact runY_append step _ r b
    · simp
def lastOf (l : List Sta) : Sta := l.getD (l.length - 1) (0, 0, 0)
def nextOk (x : List (List Acc)) (l : List Sta) (st : Sta) : Bool := decide (l.length = 0) || conflict x (lastOf l).1 (lastOf l).2.2 st.1 st.2.1
def circHere (x : List (List Acc)) (l : List Sta) : List (List Sta) := if decide (2 ≤ l.length) && isCircle x l then [l] else []
def circFrom (x : List (List Acc)) (all : List Sta) : Nat → List Sta → List (List Sta)
  | 0, l => circHere x l
  | k + 1, l => circHere x l ++ all.flatMap fun st => if nextOk x l st then circFrom x all k (l ++ [st]) else []

theorem ar_fits' {A : Ar} (hA : A = Ar.std) (n : Int) (m : List D) (h : n + m.length < 4294967296) : A.fits (A.zadd n (A.len m)) = true := by
  subst hA; simp only [Ar.std]; simp; omega

/-- The objects of a walk over circles. -/
def heapC (X : D) (A B : Obj) (LA : List D) : List Obj := [A, B, .cells [.d X], .cells [.yield 1], .cells [.d (.list 3 LA)], .cells [.func 110 [] [.ptr 2 0, .ptr 3 0, .ptr 4 0, .ptr 5 0]]]

theorem grow_ok {S : Type} (A B : S → Obj) (hAB : ∀ s k, 2 ≤ k → (A s).inb k = true ∧ (B s).inb k = true) (step : S → List Sta → S × Bool) (x : List (List Acc)) (hx : Small x) (all : List Sta) (hall : ∀ s ∈ all, isThere x s = true) (halln : all.length ≤ 1000000000000)
    (hy : ∀ s l, l.length ≤ 3 → YCall P 1 [.d (.list 3 (l.map dSta))] [A s, B s] (AB (step s l).2) [A (step s l).1, B (step s l).1]) :
    ∀ (k : Nat) (l : List Sta) (s : S), l.length + k = 3 → (∀ u ∈ l, isThere x u = true) →
      ACall P 110 [.d (.list 3 (l.map dSta)), .ptr 2 0, .ptr 3 0, .ptr 4 0, .ptr 5 0] (heapC (dX x) (A s) (B s) (all.map dSta)) (AB (runY step s (circFrom x all k l)).2)
        (heapC (dX x) (A (runY step s (circFrom x all k l)).1) (B (runY step s (circFrom x all k l)).1) (all.map dSta)) := by
  intro k
  induction k with
  | zero =>
    intro l s hlk hlt
    have ci := isCircle_ok x hx l (by omega) hlt
    have hys := hy s l (by omega)
    have hrun : runY step s (circFrom x all 0 l) = if isCircle x l then step s l else (s, true) := by
      unfold circFrom circHere
      rw [show decide (2 ≤ l.length) = true by simp; omega]
      cases isCircle x l
      · rfl
      · cases h : step s l with | mk s' b => cases b <;> simp [runY, h]
    rw [hrun]
    obtain ⟨X, hX⟩ : ∃ X, dX x = X := ⟨_, rfl⟩
    obtain ⟨L, hL⟩ : ∃ L, l.map dSta = L := ⟨_, rfl⟩
    obtain ⟨LA, hLA⟩ : ∃ L, all.map dSta = L := ⟨_, rfl⟩
    have hn : (L.length : Int) = 3 := by rw [← hL]; simp; omega
    obtain ⟨ic, hic⟩ : ∃ b, isCircle x l = b := ⟨_, rfl⟩
    obtain ⟨⟨s', b'⟩, hst⟩ : ∃ p, step s l = p := ⟨_, rfl⟩
    rw [hst] at hys
    rw [hX, hL, hic] at ci
    rw [hL] at hys
    rw [hX, hL, hLA, hic, hst]
    dsimp only at hys
    have hin : ∀ s, objsInb (heapC X (A s) (B s) LA).length (heapC X (A s) (B s) LA) = true := fun s => by
      have h1 := (hAB s 6 (by omega)).1
      have h2 := (hAB s 6 (by omega)).2
      show ((A s).inb 6 && ((B s).inb 6 && _)) = true
      rw [h1, h2]; rfl
    refine ACall.enter hT (fn := Try.f110) Try.func110 rfl (by decide) (by simp [Try.f110]) rfl rfl rfl (by cases ic <;> exact hin _) (by cases ic <;> exact Nat.le_refl _) ?_
    unfold heapC at *
    have hAs := fun s => (hAB s 2 (Nat.le_refl _)).1
    have hBs := fun s => (hAB s 2 (Nat.le_refl _)).2
    have hin2 : ∀ s, objsInb [A s, B s].length [A s, B s] = true := fun s => by simp [objsInb, hAs, hBs]
    repeat refine AWp.seq ?_
    refine AWp.reg1 {} hT (fun A hA => by cbv) (Nat.le_refl _) ?_
    try dsimp only [AExit.then, AExit.block]
    repeat refine AWp.seq ?_
    refine AWp.region ?_
    refine AOps.stepCall hT (an := {}) (fun A hA => by
        have f0 := ar_len hA L 3 hn
        have f1 := ar_le hA (show (2 : Int) ≤ 3 by omega)
        repeat (cbv; simp only [f0, f1])
        cbv) (Nat.le_refl _) rfl (.inr rfl) rfl rfl rfl (Nat.le_of_ble_eq_true rfl) rfl rfl (ci) ?_
    cases ic with
    | false =>
      refine AOps.done hT (an := {}) (fun A hA => by cbv) (Nat.le_refl _) ?_
      try dsimp only [AExit.then, AExit.block]
      repeat refine AWp.seq ?_
      refine AWp.cond (b := false) rfl (AWp.skip ?_)
      try dsimp only [AExit.then, AExit.block]
      repeat refine AWp.seq ?_
      refine AWp.reg1 {} hT (fun A hA => by
          have f0 := ar_len hA L 3 hn
          have f1 := ar_eq hA (show (3 : Int) = 3 by omega)
          repeat (cbv; simp only [f0, f1])
          cbv) (Nat.le_refl _) ?_
      try dsimp only [AExit.then, AExit.block]
      repeat refine AWp.seq ?_
      refine AWp.cond (b := true) rfl ?_
      rw [if_pos rfl]
      repeat refine AWp.seq ?_
      refine AWp.reg1 {} hT (fun A hA => by cbv) (Nat.le_refl _) ?_
      try dsimp only [AExit.then, AExit.block]
      refine AWp.ret ⟨rfl, rfl, hin _, Nat.le_refl _, [], rfl⟩
    | true =>
      refine AOps.stepY hT (an := {}) (H := [A s, B s]) (H' := [A s', B s']) (fun A hA => by cbv) (Nat.le_refl _) rfl (.inr rfl) (hin2 s) rfl rfl (Nat.le_of_ble_eq_true rfl) rfl rfl hys ?_
      cases b' with
      | true =>
        refine AOps.done hT (an := {}) (fun A hA => by cbv) (Nat.le_refl _) ?_
        try dsimp only [AExit.then, AExit.block]
        repeat refine AWp.seq ?_
        refine AWp.cond (b := false) rfl (AWp.skip ?_)
        try dsimp only [AExit.then, AExit.block]
        repeat refine AWp.seq ?_
        refine AWp.reg1 {} hT (fun A hA => by
            have f0 := ar_len hA L 3 hn
            have f1 := ar_eq hA (show (3 : Int) = 3 by omega)
            repeat (cbv; simp only [f0, f1])
            cbv) (Nat.le_refl _) ?_
        try dsimp only [AExit.then, AExit.block]
        repeat refine AWp.seq ?_
        refine AWp.cond (b := true) rfl ?_
        rw [if_pos rfl]
        repeat refine AWp.seq ?_
        refine AWp.reg1 {} hT (fun A hA => by cbv) (Nat.le_refl _) ?_
        try dsimp only [AExit.then, AExit.block]
        refine AWp.ret ⟨rfl, rfl, hin _, Nat.le_refl _, [], rfl⟩
      | false =>
        refine AOps.done hT (an := {}) (fun A hA => by cbv) (Nat.le_refl _) ?_
        try dsimp only [AExit.then, AExit.block]
        repeat refine AWp.seq ?_
        refine AWp.cond (b := true) rfl ?_
        rw [if_pos rfl]
        repeat refine AWp.seq ?_
        refine AWp.reg1 {} hT (fun A hA => by cbv) (Nat.le_refl _) ?_
        try dsimp only [AExit.then, AExit.block]
        refine AWp.ret ⟨rfl, rfl, hin _, Nat.le_refl _, [], rfl⟩
  | succ k ih =>
    intro l s hlk hlt
    have ci := isCircle_ok x hx l (by omega) hlt
    have hys := hy s l (by omega)
    obtain ⟨Gn, hGn⟩ : ∃ Gn : Sta → List (List Sta), Gn = fun st => if nextOk x l st then circFrom x all k (l ++ [st]) else [] := ⟨_, rfl⟩
    have hrun : runY step s (circFrom x all (k + 1) l) = if (runY step s (circHere x l)).2 then runY step (runY step s (circHere x l)).1 (all.flatMap Gn) else runY step s (circHere x l) := by
      rw [hGn]; exact runY_append _ _ _ _
    have hhere : runY step s (circHere x l) = if decide (2 ≤ l.length) && isCircle x l then step s l else (s, true) := by
      unfold circHere
      split
      · cases h : step s l with | mk s' b => cases b <;> simp [runY, h]
      · rfl
    have hG : ∀ st, Gn st = if nextOk x l st then circFrom x all k (l ++ [st]) else [] := fun st => by rw [hGn]
    have hnx : ∀ st, nextOk x l st = (decide (l.length = 0) || conflict x (lastOf l).1 (lastOf l).2.2 st.1 st.2.1) := fun st => rfl
    have ih' : ∀ (s : S) (st : Sta), st ∈ all → ACall P 110 [.d (.list 3 (l.map dSta ++ [dSta st])), .ptr 2 0, .ptr 3 0, .ptr 4 0, .ptr 5 0] (heapC (dX x) (A s) (B s) (all.map dSta)) (AB (runY step s (circFrom x all k (l ++ [st]))).2)
        (heapC (dX x) (A (runY step s (circFrom x all k (l ++ [st]))).1) (B (runY step s (circFrom x all k (l ++ [st]))).1) (all.map dSta)) := fun s st hst => by
      have := ih (l ++ [st]) s (by simp; omega) (fun u hu => by
        rcases List.mem_append.1 hu with h | h
        · exact hlt u h
        · simp at h; subst h; exact hall u hst)
      rwa [List.map_append] at this
    have hlast : l.length ≠ 0 → lastOf l ∈ l ∧ l[l.length - 1]? = some (lastOf l) := fun h => by
      have h1 : l.length - 1 < l.length := by omega
      have h2 : l[l.length - 1]? = some (lastOf l) := by unfold lastOf; rw [List.getD_eq_getElem?_getD, List.getElem?_eq_getElem h1]; rfl
      exact ⟨List.mem_of_getElem? h2, h2⟩
    have hconf : ∀ u, isThere x u = true → ∀ v, isThere x v = true → ACall P 63 [.d (dX x), .d (.agg [I u.1, I u.2.2]), .d (.agg [I v.1, I v.2.1])] [] (AB (conflict x u.1 u.2.2 v.1 v.2.1)) [] := fun u hu v hv =>
      conflict_ok x _ _ _ _ (by unfold isThere at hu; simp at hu; exact hu.2) (by unfold isThere at hv; simp at hv; exact hv.1)
    rw [hrun]
    generalize hres : runY step s (circHere x l) = res at *
    obtain ⟨X, hX⟩ : ∃ X, dX x = X := ⟨_, rfl⟩
    obtain ⟨L, hL⟩ : ∃ L, l.map dSta = L := ⟨_, rfl⟩
    obtain ⟨LA, hLA⟩ : ∃ L, all.map dSta = L := ⟨_, rfl⟩
    obtain ⟨n, hn⟩ : ∃ n : Int, (L.length : Int) = n := ⟨_, rfl⟩
    have hln : (l.length : Int) = n := by rw [← hn, ← hL]; simp
    obtain ⟨N, hN⟩ : ∃ n : Int, (LA.length : Int) = n := ⟨_, rfl⟩
    have hlN : (all.length : Int) = N := by rw [← hN, ← hLA]; simp
    obtain ⟨ic, hic⟩ : ∃ b, isCircle x l = b := ⟨_, rfl⟩
    obtain ⟨⟨s', b'⟩, hst⟩ : ∃ p, step s l = p := ⟨_, rfl⟩
    rw [hst] at hys hhere
    rw [hX, hL, hic] at ci
    rw [hic] at hhere
    rw [hL] at hys
    rw [hX, hL, hLA] at ih' ⊢
    simp only [hX] at hconf
    dsimp only at hys
    have hin : ∀ s, objsInb (heapC X (A s) (B s) LA).length (heapC X (A s) (B s) LA) = true := fun s => by
      have h1 := (hAB s 6 (by omega)).1
      have h2 := (hAB s 6 (by omega)).2
      show ((A s).inb 6 && ((B s).inb 6 && _)) = true
      rw [h1, h2]; rfl
    have hin2 : ∀ s, objsInb [A s, B s].length [A s, B s] = true := fun s => by
      have h1 := (hAB s 2 (by omega)).1
      have h2 := (hAB s 2 (by omega)).2
      show ((A s).inb 2 && ((B s).inb 2 && _)) = true
      rw [h1, h2]; rfl
    obtain ⟨⟨fs, fb⟩, hfin⟩ : ∃ p, (if res.2 then runY step res.1 (all.flatMap Gn) else res) = p := ⟨_, rfl⟩
    rw [hfin]
    refine ACall.enter hT (fn := Try.f110) Try.func110 rfl (by decide) (by simp [Try.f110]) rfl rfl rfl (hin _) (Nat.le_refl _) ?_
    unfold heapC at *
    repeat refine AWp.seq ?_
    refine AWp.reg1 {} hT (fun A hA => by cbv) (Nat.le_of_ble_eq_true rfl) ?_
    try dsimp only [AExit.then, AExit.block]
    refine AWp.cut (fun σ' => ∃ s1, res = (s1, true) ∧ σ'.keep [0, 1, 2, 3, 4] = { env := [(0, .d (.list 3 L)), (1, .ptr 2 0), (2, .ptr 3 0), (3, .ptr 4 0), (4, .ptr 5 0)], heap := heapC X (A s1) (B s1) LA, n := 62 }) ?_ ?_
    · unfold heapC
      by_cases h2 : 2 ≤ n
      · rw [show decide (2 ≤ l.length) = true by simp; omega] at hhere
        repeat refine AWp.seq ?_
        refine AWp.region ?_
        refine AOps.stepCall hT (an := {}) (fun A hA => by
            have f0 := ar_len hA L n hn
            have f1 := ar_le hA h2
            repeat (cbv; simp only [f0, f1])
            cbv) (Nat.le_of_ble_eq_true rfl) rfl (.inr rfl) rfl rfl rfl (Nat.le_of_ble_eq_true rfl) rfl rfl (ci) ?_
        cases ic with
        | false =>
          refine AOps.done hT (an := {}) (fun A hA => by cbv) (Nat.le_of_ble_eq_true rfl) ?_
          try dsimp only [AExit.then, AExit.block]
          repeat refine AWp.seq ?_
          refine AWp.cond (b := false) rfl (AWp.skip ?_)
          try dsimp only [AExit.then, AExit.block]
          exact ⟨s, hhere, by cbv⟩
        | true =>
          refine AOps.stepY hT (an := {}) (H := [A s, B s]) (H' := [A s', B s']) (fun A hA => by cbv) (Nat.le_refl _) rfl (.inr rfl) (hin2 s) rfl rfl (Nat.le_of_ble_eq_true rfl) rfl rfl hys ?_
          cases b' with
          | true =>
            refine AOps.done hT (an := {}) (fun A hA => by cbv) (Nat.le_of_ble_eq_true rfl) ?_
            try dsimp only [AExit.then, AExit.block]
            repeat refine AWp.seq ?_
            refine AWp.cond (b := false) rfl (AWp.skip ?_)
            try dsimp only [AExit.then, AExit.block]
            exact ⟨s', hhere, by cbv⟩
          | false =>
            refine AOps.done hT (an := {}) (fun A hA => by cbv) (Nat.le_of_ble_eq_true rfl) ?_
            try dsimp only [AExit.then, AExit.block]
            repeat refine AWp.seq ?_
            refine AWp.cond (b := true) rfl ?_
            rw [if_pos rfl]
            repeat refine AWp.seq ?_
            refine AWp.reg1 {} hT (fun A hA => by cbv) (Nat.le_of_ble_eq_true rfl) ?_
            try dsimp only [AExit.then, AExit.block]
            have : (fs, fb) = (s', false) := by rw [← hfin, hhere]; rfl
            injection this with e1 e2; subst e1 e2
            refine AWp.ret ⟨rfl, rfl, hin _, Nat.le_refl _, [], rfl⟩
      · rw [show decide (2 ≤ l.length) = false by simp; omega] at hhere
        repeat refine AWp.seq ?_
        refine AWp.reg1 {} hT (fun A hA => by
            have f0 := ar_len hA L n hn
            have f1 := ar_nle hA h2
            repeat (cbv; simp only [f0, f1])
            cbv) (Nat.le_of_ble_eq_true rfl) ?_
        try dsimp only [AExit.then, AExit.block]
        repeat refine AWp.seq ?_
        refine AWp.cond (b := false) rfl (AWp.skip ?_)
        try dsimp only [AExit.then, AExit.block]
        exact ⟨s, hhere, by cbv⟩
    · rintro σ1 ⟨s1, hs1, hσ1⟩
      refine AWp.keep [0, 1, 2, 3, 4] ?_
      rw [hσ1]
      unfold heapC
      rw [hs1] at hfin
      simp only [if_true] at hfin
      repeat refine AWp.seq ?_
      refine AWp.reg1 {} hT (fun A hA => by
          have f0 := ar_len hA L n hn
          have f1 := ar_ne hA (show ¬ n = 3 by omega)
          repeat (cbv; simp only [f0, f1])
          cbv) (Nat.le_of_ble_eq_true rfl) ?_
      try dsimp only [AExit.then, AExit.block]
      repeat refine AWp.seq ?_
      refine AWp.cond (b := false) rfl (AWp.skip ?_)
      try dsimp only [AExit.then, AExit.block]
      repeat refine AWp.seq ?_
      refine AWp.reg1 {} hT (fun A hA => by
          have f0 := ar_len hA LA N hN
          repeat (cbv; simp only [f0])
          cbv) (Nat.le_of_ble_eq_true rfl) ?_
      try dsimp only [AExit.then, AExit.block]
      refine AWp.block (AWp.loopH (ι := Int × S) (fun p => 0 ≤ p.1 ∧ p.1 ≤ N ∧ runY step s1 ((all.take p.1.toNat).flatMap Gn) = (p.2, true)) (fun p => (N - p.1).toNat) [0, 1, 2, 3, 4, 26, 27, 28] 6
        (fun p => { env := [(0, .d (.list 3 L)), (1, .ptr 2 0), (2, .ptr 3 0), (3, .ptr 4 0), (4, .ptr 5 0), (26, .d (.list 3 LA)), (27, AI N), (28, AI p.1)], heap := heapC X (A p.2) (B p.2) LA, n := 62 }) (0, s1) (Nat.le_refl _) (by exact hin s1) (by cbv) ⟨Int.le_refl _, by omega, by simp [runY]⟩ ?_)
      rintro ⟨z, s2⟩ ⟨h0, h1, hr⟩
      dsimp only at *
      unfold heapC
      by_cases hz : z < N
      · obtain ⟨⟨t, a, b⟩, hs⟩ : ∃ s, all[z.toNat]? = some s := ⟨_, List.getElem?_eq_getElem (by omega)⟩
        have hLz : LA[z.toNat]? = some (.agg [I t, I a, I b]) := by rw [← hLA, List.getElem?_map, hs]; rfl
        obtain ⟨z1, hz1⟩ : ∃ z1, z + 1 = z1 := ⟨_, rfl⟩
        have hz1n : z1.toNat = z.toNat + 1 := by omega
        have hmem := List.mem_of_getElem? hs
        have hnext : (all.take z1.toNat).flatMap Gn = (all.take z.toNat).flatMap Gn ++ Gn (t, a, b) := by
          rw [hz1n, List.take_add_one, hs]; simp
        have hwhole : all.flatMap Gn = (all.take z.toNat).flatMap Gn ++ (Gn (t, a, b) ++ (all.drop z1.toNat).flatMap Gn) := by
          rw [← List.append_assoc, ← hnext, ← List.flatMap_append, List.take_append_drop]
        repeat refine AWp.seq ?_
        refine AWp.reg1 {} hT (fun A hA => by
            have f0 := ar_lt hA hz
            repeat (cbv; simp only [f0])
            cbv) (Nat.le_of_ble_eq_true rfl) ?_
        try dsimp only [AExit.then, AExit.block]
        repeat refine AWp.seq ?_
        refine AWp.cond (b := true) rfl (AWp.skip ?_)
        try dsimp only [AExit.then, AExit.block]
        repeat refine AWp.seq ?_
        refine AWp.block ?_
        repeat refine AWp.seq ?_
        refine AWp.reg1 {esc := [8]} hT (fun A hA => by
            have f0 := ar_get hA hLz
            have f1 := ar_le hA h0
            repeat (cbv; simp only [f0, f1])
            cbv) (Nat.le_of_ble_eq_true rfl) ?_
        try dsimp only [AExit.then, AExit.block]
        refine AWp.cut (fun σ' => nextOk x l (t, a, b) = true ∧ σ'.keep [0, 1, 2, 3, 4, 8, 26, 27, 28] = { env := [(0, .d (.list 3 L)), (1, .ptr 2 0), (2, .ptr 3 0), (3, .ptr 4 0), (4, .ptr 5 0), (8, .ptr 6 0), (26, .d (.list 3 LA)), (27, AI N), (28, AI z)], heap := heapC X (A s2) (B s2) LA ++ [.cells [AI t, AI a, AI b]], n := 62 }) ?_ ?_
        · have hnxt := hnx (t, a, b)
          by_cases hn0 : n = 0
          · rw [show decide (l.length = 0) = true from decide_eq_true (by omega)] at hnxt
            repeat refine AWp.seq ?_
            refine AWp.reg1D {} hT rfl (fun A hA => by
                have f0 := ar_len hA L n hn
                have f1 := ar_nlt hA (show ¬ 0 < n by omega)
                repeat (cbv; simp only [f0, f1])
                cbv) (by kernel_rfl) (Nat.le_of_ble_eq_true rfl) ?_
            try dsimp only [AExit.then, AExit.block]
            repeat refine AWp.seq ?_
            refine AWp.cond (b := false) rfl (AWp.skip ?_)
            try dsimp only [AExit.then, AExit.block]
            exact ⟨hnxt, by cbv⟩
          · obtain ⟨hl1, hl2⟩ := hlast (by omega)
            have hcc := hconf _ (hlt _ hl1) _ (hall _ hmem)
            rw [show decide (l.length = 0) = false from decide_eq_false (by omega), Bool.false_or] at hnxt
            obtain ⟨⟨t', a', b'⟩, hlst⟩ : ∃ s, lastOf l = s := ⟨_, rfl⟩
            rw [hlst] at hl2 hcc hnxt
            dsimp only at hcc hnxt
            obtain ⟨r, hr'⟩ : ∃ r, conflict x t' b' t a = r := ⟨_, rfl⟩
            rw [hr'] at hcc hnxt
            obtain ⟨n1, hn1⟩ : ∃ n1, n - 1 = n1 := ⟨_, rfl⟩
            have hLl : L[n1.toNat]? = some (.agg [I t', I a', I b']) := by rw [← hL, List.getElem?_map, show n1.toNat = l.length - 1 by omega, hl2]; rfl
            repeat refine AWp.seq ?_
            refine AWp.regionDraw rfl (Nat.le_of_ble_eq_true rfl) ?_
            refine DOps.stepCall hT (an := {}) rfl (fun A hA => by
                have f0 := ar_len hA L n hn
                have f1 := ar_lt hA (show 0 < n by omega)
                have f2 := ar_sub hA n 1 n1 hn1 (by omega) (by omega)
                have f3 := ar_get hA hLl
                have f4 := ar_le hA (show 0 ≤ n1 by omega)
                repeat (cbv; simp only [f0, f1, f2, f3, f4])
                cbv) rfl rfl (Nat.le_of_ble_eq_true rfl) rfl rfl (out_ok t' a' b') ?_
            refine DOps.stepCall hT (an := {}) rfl (fun A hA => by cbv) rfl rfl (Nat.le_of_ble_eq_true rfl) rfl rfl (in_ok t a b) ?_
            refine DOps.stepCall hT (an := {}) rfl (fun A hA => by cbv) rfl rfl (Nat.le_of_ble_eq_true rfl) rfl rfl (hcc) ?_
            cases r with
            | true =>
              refine DOps.done hT (an := {}) rfl (fun A hA => by cbv) (by kernel_rfl) ?_
              try dsimp only [AExit.then, AExit.block]
              repeat refine AWp.seq ?_
              refine AWp.cond (b := false) rfl (AWp.skip ?_)
              try dsimp only [AExit.then, AExit.block]
              exact ⟨hnxt, by cbv⟩
            | false =>
              refine DOps.done hT (an := {}) rfl (fun A hA => by cbv) (by kernel_rfl) ?_
              try dsimp only [AExit.then, AExit.block]
              repeat refine AWp.seq ?_
              refine AWp.cond (b := true) rfl ?_
              rw [if_pos rfl]
              refine AWp.exit ?_
              dsimp only [AExit.then, AExit.block]
              rw [if_pos rfl]
              have hGt : Gn (t, a, b) = [] := by rw [hG, hnxt]; rfl
              repeat refine AWp.seq ?_
              refine AWp.reg1 {} hT (fun A hA => by
                  have f0 := ar_add hA z 1 z1 hz1 (by omega) (by omega)
                  repeat (cbv; simp only [f0])
                  cbv) (Nat.le_of_ble_eq_true rfl) ?_
              try dsimp only [AExit.then, AExit.block]
              exact ⟨by exact hin s2, (z1, s2), ⟨by dsimp only; omega, by dsimp only; omega, by dsimp only; rw [hnext, hGt, List.append_nil]; exact hr⟩, by dsimp only; omega, by cbv⟩
        · rintro σ2 ⟨hok, hσ2⟩
          refine AWp.keep [0, 1, 2, 3, 4, 8, 26, 27, 28] ?_
          rw [hσ2]
          unfold heapC
          have hGt := hG (t, a, b)
          rw [hok, if_pos rfl] at hGt
          have hcall := ih' s2 (t, a, b) hmem
          rw [← hGt] at hcall
          obtain ⟨⟨s3, b3⟩, h3⟩ : ∃ p, runY step s2 (Gn (t, a, b)) = p := ⟨_, rfl⟩
          rw [h3] at hcall
          unfold dSta at hcall
          dsimp only at hcall
          obtain ⟨L3, hL3⟩ : ∃ L3, L ++ [.agg [I t, I a, I b]] = L3 := ⟨_, rfl⟩
          rw [hL3] at hcall
          have hsub : ∀ A : Ar, A = Ar.std → A.sub L 0 n = L := fun A hA => by subst hA; show (L.drop (0 : Int).toNat).take (n.toNat - (0 : Int).toNat) = L; exact List.take_of_length_le (by simp; omega)
          have hr2 : runY step s1 ((all.take z1.toNat).flatMap Gn) = (s3, b3) := by rw [hnext, runY_append, hr]; exact h3
          repeat refine AWp.seq ?_
          refine AWp.regionDraw rfl (Nat.le_of_ble_eq_true rfl) ?_
          refine DOps.stepCallH hT (an := {}) rfl (fun A' hA => by
              have f0 := ar_len hA L n hn
              have f1 := hsub A' hA
              have f2 := ar_le hA (Int.le_refl 0)
              have f3 := ar_le hA (show 0 ≤ n by omega)
              have f4 := ar_le hA (Int.le_refl n)
              have f5 := ar_eq hA (show n = n from rfl)
              have f6 := ar_app hA _ _ _ hL3
              have f7 := ar_fits' hA n [.agg [I t, I a, I b]] (by simp; omega)
              repeat (cbv; simp only [f0, f1, f2, f3, f4, f5, f6, f7])
              cbv) (H := [A s2, B s2, .cells [.d X], .cells [.yield 1], .cells [.d (.list 3 LA)], .cells [.func 110 [] [.ptr 2 0, .ptr 3 0, .ptr 4 0, .ptr 5 0]]])
              (H' := [A s3, B s3, .cells [.d X], .cells [.yield 1], .cells [.d (.list 3 LA)], .cells [.func 110 [] [.ptr 2 0, .ptr 3 0, .ptr 4 0, .ptr 5 0]]]) rfl (.inr rfl) (hin s2) rfl rfl (Nat.le_of_ble_eq_true rfl) rfl rfl hcall ?_
          refine DOps.done hT (an := {}) rfl (fun A hA => by cbv) (by kernel_rfl) ?_
          try dsimp only [AExit.then, AExit.block]
          cases b3 with
          | true =>
            repeat refine AWp.seq ?_
            refine AWp.cond (b := false) rfl (AWp.skip ?_)
            try dsimp only [AExit.then, AExit.block]
            repeat refine AWp.seq ?_
            refine AWp.reg1 {} hT (fun A hA => by
                have f0 := ar_add hA z 1 z1 hz1 (by omega) (by omega)
                repeat (cbv; simp only [f0])
                cbv) (Nat.le_of_ble_eq_true rfl) ?_
            try dsimp only [AExit.then, AExit.block]
            exact ⟨by exact hin s3, (z1, s3), ⟨by dsimp only; omega, by dsimp only; omega, hr2⟩, by dsimp only; omega, by cbv⟩
          | false =>
            repeat refine AWp.seq ?_
            refine AWp.cond (b := true) rfl ?_
            rw [if_pos rfl]
            repeat refine AWp.seq ?_
            refine AWp.reg1 {} hT (fun A hA => by cbv) (Nat.le_of_ble_eq_true rfl) ?_
            try dsimp only [AExit.then, AExit.block]
            have : (fs, fb) = (s3, false) := by rw [← hfin, hwhole, ← List.append_assoc, ← hnext, runY_append, hr2]; rfl
            injection this with e1 e2; subst e1 e2
            refine AWp.ret ⟨rfl, rfl, hin _, Nat.le_refl _, _, rfl⟩
      · repeat refine AWp.seq ?_
        refine AWp.reg1 {} hT (fun A hA => by
            have f0 := ar_nlt hA hz
            repeat (cbv; simp only [f0])
            cbv) (Nat.le_of_ble_eq_true rfl) ?_
        try dsimp only [AExit.then, AExit.block]
        repeat refine AWp.seq ?_
        refine AWp.cond (b := false) rfl (AWp.exit ?_)
        try dsimp only [AExit.then, AExit.block]
        rw [if_pos rfl]
        repeat refine AWp.seq ?_
        refine AWp.reg1 {} hT (fun A hA => by cbv) (Nat.le_of_ble_eq_true rfl) ?_
        try dsimp only [AExit.then, AExit.block]
        rw [List.take_of_length_le (by omega), hfin] at hr
        injection hr with e1 e2; subst e1 e2
        refine AWp.ret ⟨rfl, rfl, hin _, Nat.le_refl _, [], rfl⟩
end Go.Am
