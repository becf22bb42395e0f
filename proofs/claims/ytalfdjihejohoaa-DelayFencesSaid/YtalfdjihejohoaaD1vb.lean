/- Own text: D1va, D1c3, D1vb. -/
import Derived.Test.YtalfdjihejohoaaD1te
import Derived.Test.YtalfdjihejohoaaD1c2
set_option maxRecDepth 100000
set_option linter.unusedVariables false
set_option linter.unusedSimpArgs false
namespace Go.Am
open Go Go.Proofs

theorem index118 (l : List Sta) (s : Sta) (hl : l.length ≤ 9223372036854775807) : ∃ r : Int, decide (0 ≤ r) = l.contains s ∧ ACall P 118 [.d (.list 3 (l.map dSta)), .d (dSta s)] [] (AI r) [] := by
  refine ⟨match l.findIdx? (fun u => decide (s = u)) with | some i => (i : Int) | none => -1, ?_, ?_⟩
  · cases h : l.findIdx? (fun u => decide (s = u)) with
    | none =>
      rw [List.findIdx?_eq_none_iff] at h
      have : l.contains s = false := by
        rw [List.contains_eq_mem, decide_eq_false_iff_not]
        intro hm
        have := h s hm
        simp at this
      rw [this]; rfl
    | some i =>
      obtain ⟨h1, h2, _⟩ := List.findIdx?_eq_some_iff_getElem.1 h
      have : l.contains s = true := by
        rw [List.contains_eq_mem, decide_eq_true_eq, of_decide_eq_true h2]
        exact List.getElem_mem h1
      rw [this]; simp
  obtain ⟨X, hX⟩ : ∃ X, l.map dSta = X := ⟨_, rfl⟩
  obtain ⟨n, hn⟩ : ∃ n : Int, (X.length : Int) = n := ⟨_, rfl⟩
  have hln : (l.length : Int) = n := by rw [← hn, ← hX]; simp
  obtain ⟨a, b, c⟩ := s
  unfold dSta
  dsimp only
  have hfun : (fun s => D.agg [I s.1, I s.2.1, I s.2.2]) = dSta := rfl
  rw [hfun, hX]
  refine ACall.enter hT (fn := Try.f118) Try.func118 rfl (by decide) (by simp [Try.f118]) rfl rfl rfl rfl (Nat.le_refl _) ?_
  repeat refine AWp.seq ?_
  refine AWp.reg1 {} hT (fun A hA => by cbv) (Nat.zero_le _) ?_
  try dsimp only [AExit.then, AExit.block]
  repeat refine AWp.seq ?_
  refine AWp.reg1 {} hT (fun A hA => by
      have f0 := ar_len hA X n hn
      repeat (cbv; simp only [f0])
      cbv) (Nat.zero_le _) ?_
  try dsimp only [AExit.then, AExit.block]
  refine AWp.block (AWp.loopInv (ι := Int) (fun z => 0 ≤ z ∧ z ≤ n ∧ ∀ u ∈ l.take z.toNat, decide ((a, b, c) = u) = false) (fun z => (n - z).toNat) [0, 3, 7, 8]
    (fun z => { env := [(0, .d (.list 3 X)), (3, .lbox [AI a, AI b, AI c]), (7, AI n), (8, AI z)], heap := [], n := 19 }) 0 (by cbv) ⟨Int.le_refl _, by omega, by simp⟩ ?_)
  rintro z ⟨h0, h1, h2⟩
  by_cases hz : z < n
  · obtain ⟨z1, hz1⟩ : ∃ z1, z + 1 = z1 := ⟨_, rfl⟩
    obtain ⟨⟨a', b', c'⟩, hs⟩ : ∃ s, l[z.toNat]? = some s := ⟨_, List.getElem?_eq_getElem (by omega)⟩
    have hXs : X[z.toNat]? = some (.agg [I a', I b', I c']) := by rw [← hX, List.getElem?_map, hs]; rfl
    obtain ⟨r, hr⟩ : ∃ r, decide ((a, b, c) = (a', b', c')) = r := ⟨_, rfl⟩
    have hdeq : ∀ A : Ar, A = Ar.std → A.deq [I a, I b, I c] [I a', I b', I c'] = r := fun A hA => ar_deq hA (by rw [← hr]; simp)
    repeat refine AWp.seq ?_
    refine AWp.reg1 {} hT (fun A hA => by
        have f0 := ar_lt hA hz
        repeat (cbv; simp only [f0])
        cbv) (Nat.zero_le _) ?_
    try dsimp only [AExit.then, AExit.block]
    repeat refine AWp.seq ?_
    refine AWp.cond (b := true) rfl (AWp.skip ?_)
    try dsimp only [AExit.then, AExit.block]
    repeat refine AWp.seq ?_
    refine AWp.block ?_
    repeat refine AWp.seq ?_
    refine AWp.reg1 {} hT (fun A hA => by cbv) (Nat.zero_le _) ?_
    try dsimp only [AExit.then, AExit.block]
    cases r with
    | true =>
      repeat refine AWp.seq ?_
      refine AWp.reg1D {} hT rfl (fun A hA => by
          have f0 := ar_get hA hXs
          have f1 := ar_le hA h0
          have f2 := hdeq A hA
          repeat (cbv; simp only [f0, f1, f2])
          cbv) (by kernel_rfl) (Nat.zero_le _) ?_
      try dsimp only [AExit.then, AExit.block]
      repeat refine AWp.seq ?_
      refine AWp.cond (b := true) rfl ?_
      rw [if_pos rfl]
      repeat refine AWp.seq ?_
      refine AWp.reg1 {} hT (fun A hA => by cbv) (Nat.zero_le _) ?_
      try dsimp only [AExit.then, AExit.block]
      repeat refine AWp.seq ?_
      refine AWp.ret ⟨?_, rfl, rfl, Nat.zero_le _, _, rfl⟩
      have : l.findIdx? (fun u => decide ((a, b, c) = u)) = some z.toNat := by
        rw [List.findIdx?_eq_some_iff_getElem]
        refine ⟨by omega, ?_, fun j hj => ?_⟩
        · rw [List.getElem?_eq_getElem (by omega)] at hs; injection hs with hs; rw [hs]; exact hr
        · have := h2 l[j] (by rw [List.mem_take_iff_getElem]; exact ⟨j, by omega, rfl⟩)
          rw [this]; decide
      rw [this]
      show _ = some (AI (z.toNat : Int))
      rw [show (z.toNat : Int) = z by omega]
      rfl
    | false =>
      repeat refine AWp.seq ?_
      refine AWp.reg1D {} hT rfl (fun A hA => by
          have f0 := ar_get hA hXs
          have f1 := ar_le hA h0
          have f2 := hdeq A hA
          repeat (cbv; simp only [f0, f1, f2])
          cbv) (by kernel_rfl) (Nat.zero_le _) ?_
      try dsimp only [AExit.then, AExit.block]
      repeat refine AWp.seq ?_
      refine AWp.cond (b := false) rfl (AWp.skip ?_)
      try dsimp only [AExit.then, AExit.block]
      repeat refine AWp.seq ?_
      refine AWp.reg1 {} hT (fun A hA => by
          have f0 := ar_add hA z 1 z1 hz1 (by omega) (by omega)
          repeat (cbv; simp only [f0])
          cbv) (Nat.zero_le _) ?_
      try dsimp only [AExit.then, AExit.block]
      refine ⟨z1, ⟨by omega, by omega, ?_⟩, by omega, by cbv⟩
      intro u hu
      rw [show z1.toNat = z.toNat + 1 by omega, List.take_add_one, hs] at hu
      simp only [Option.toList_some, List.mem_append, List.mem_singleton] at hu
      rcases hu with hu | rfl
      · exact h2 u hu
      · exact hr
  · repeat refine AWp.seq ?_
    refine AWp.reg1 {} hT (fun A hA => by
        have f0 := ar_nlt hA hz
        repeat (cbv; simp only [f0])
        cbv) (Nat.zero_le _) ?_
    try dsimp only [AExit.then, AExit.block]
    repeat refine AWp.seq ?_
    refine AWp.cond (b := false) rfl (AWp.exit ?_)
    try dsimp only [AExit.then, AExit.block]
    rw [if_pos rfl]
    repeat refine AWp.seq ?_
    refine AWp.reg1 {} hT (fun A hA => by cbv) (Nat.zero_le _) ?_
    try dsimp only [AExit.then, AExit.block]
    repeat refine AWp.seq ?_
    refine AWp.ret ⟨?_, rfl, rfl, Nat.zero_le _, _, rfl⟩
    have : l.findIdx? (fun u => decide ((a, b, c) = u)) = none := by
      rw [List.findIdx?_eq_none_iff]
      intro y hy
      exact h2 y (by rw [List.take_of_length_le (by omega)]; exact hy)
    rw [this]
    rfl

theorem contains_sta_ok (l : List Sta) (s : Sta) (hl : l.length ≤ 9223372036854775807) : ACall P 79 [.d (.list 3 (l.map dSta)), .d (dSta s)] [] (AB (l.contains s)) [] := by
  obtain ⟨r, hr, hc⟩ := index118 l s hl
  obtain ⟨b, hb⟩ : ∃ b, l.contains s = b := ⟨_, rfl⟩
  rw [hb] at hr ⊢
  obtain ⟨X, hX⟩ : ∃ X, l.map dSta = X := ⟨_, rfl⟩
  rw [hX] at hc ⊢
  obtain ⟨a, b', c⟩ := s
  unfold dSta at *
  dsimp only at *
  have hrb : ∀ A : Ar, A = Ar.std → A.zle 0 r = b := fun A hA => by subst hA; exact hr
  refine ACall.enter hT (fn := Try.f79) Try.func79 rfl (by decide) (by simp [Try.f79]) rfl rfl rfl rfl (Nat.le_refl _) ?_
  repeat refine AWp.seq ?_
  refine AWp.reg1 {} hT (fun A hA => by cbv) (Nat.zero_le _) ?_
  try dsimp only [AExit.then, AExit.block]
  repeat refine AWp.seq ?_
  refine AWp.region ?_
  refine AOps.stepCall hT (an := {}) (fun A hA => by cbv) (Nat.zero_le _) rfl (.inr rfl) rfl rfl rfl (Nat.le_of_ble_eq_true rfl) rfl rfl (hc) ?_
  refine AOps.done hT (an := {}) (fun A hA => by
      have f0 := hrb A hA
      repeat (cbv; simp only [f0])
      cbv) (Nat.zero_le _) ?_
  try dsimp only [AExit.then, AExit.block]
  repeat refine AWp.seq ?_
  refine AWp.ret ⟨?_, rfl, rfl, Nat.zero_le _, _, rfl⟩
  rfl

/-- Whether a list that is given is a circle. -/
def isCircF (x : List (List Acc)) (c : List Sta) : Bool := decide (2 ≤ c.length) && decide (c.length ≤ 3) && c.all (fun s => (stations x).contains s) && isCircle x c

theorem IsCircle_ok (x : List (List Acc)) (c : List Sta) (hx : Big x) (hc : c.length ≤ 9223372036854775807) : ACall P 29 [.d (dX x), .d (.list 3 (c.map dSta))] [] (.tuple (if valid x then [AB (isCircF x c), AI 0] else [AB false, AI 90])) [] := by
  have cv := valid_ok x hx
  cases hv : valid x with
  | false =>
    rw [hv] at cv
    obtain ⟨X, hX⟩ : ∃ X, dX x = X := ⟨_, rfl⟩
    obtain ⟨C, hC⟩ : ∃ C, c.map dSta = C := ⟨_, rfl⟩
    rw [hX] at cv ⊢
    rw [hC]
    refine ACall.enter hT (fn := Try.f29) Try.func29 rfl (by decide) (by simp [Try.f29]) rfl rfl rfl rfl (Nat.le_refl _) ?_
    repeat refine AWp.seq ?_
    refine AWp.reg1 {} hT (fun A hA => by cbv) (Nat.zero_le _) ?_
    try dsimp only [AExit.then, AExit.block]
    repeat refine AWp.seq ?_
    refine AWp.region ?_
    refine AOps.stepCall hT (an := {}) (fun A hA => by cbv) (Nat.zero_le _) rfl (.inr rfl) rfl rfl rfl (Nat.le_of_ble_eq_true rfl) rfl rfl (cv) ?_
    refine AOps.done hT (an := {}) (fun A hA => by cbv) (Nat.zero_le _) ?_
    try dsimp only [AExit.then, AExit.block]
    repeat refine AWp.seq ?_
    refine AWp.cond (b := true) rfl ?_
    rw [if_pos rfl]
    repeat refine AWp.seq ?_
    refine AWp.reg1 {} hT (fun A hA => by cbv) (Nat.zero_le _) ?_
    try dsimp only [AExit.then, AExit.block]
    repeat refine AWp.seq ?_
    refine AWp.ret ⟨?_, rfl, rfl, Nat.zero_le _, _, rfl⟩
    rfl
  | true =>
    have hs := valid_small hv
    rw [hv] at cv
    rw [if_pos rfl]
    have cst := stations_ok x hs
    have hst : ∀ s, s ∈ stations x → isThere x s = true := fun s h => mem_stations h
    have h48 := stations_48 hv
    have ccn := fun s => contains_sta_ok (stations x) s (by omega)
    have cci := fun (h1 : c.length ≤ 1000000) h2 => isCircle_ok x hs c h1 h2
    obtain ⟨F, hF⟩ : ∃ F, isCircF x c = F := ⟨_, rfl⟩
    rw [hF]
    unfold isCircF at hF
    obtain ⟨st, hst'⟩ : ∃ st, stations x = st := ⟨_, rfl⟩
    rw [hst'] at cst ccn hF h48
    simp only [hst'] at hst
    obtain ⟨X, hX⟩ : ∃ X, dX x = X := ⟨_, rfl⟩
    obtain ⟨C, hC⟩ : ∃ C, c.map dSta = C := ⟨_, rfl⟩
    obtain ⟨S, hS⟩ : ∃ C, st.map dSta = C := ⟨_, rfl⟩
    obtain ⟨n, hn⟩ : ∃ n : Int, (C.length : Int) = n := ⟨_, rfl⟩
    have hcn : (c.length : Int) = n := by rw [← hn, ← hC]; simp
    rw [hX] at cv cst cci ⊢
    rw [hS] at cst
    simp only [hS] at ccn
    rw [hC] at cci ⊢
    have cb := between_ok 2 n 3
    refine ACall.enter hT (fn := Try.f29) Try.func29 rfl (by decide) (by simp [Try.f29]) rfl rfl rfl rfl (Nat.le_refl _) ?_
    repeat refine AWp.seq ?_
    refine AWp.reg1 {} hT (fun A hA => by cbv) (Nat.zero_le _) ?_
    try dsimp only [AExit.then, AExit.block]
    repeat refine AWp.seq ?_
    refine AWp.region ?_
    refine AOps.stepCall hT (an := {}) (fun A hA => by cbv) (Nat.zero_le _) rfl (.inr rfl) rfl rfl rfl (Nat.le_of_ble_eq_true rfl) rfl rfl (cv) ?_
    refine AOps.done hT (an := {}) (fun A hA => by cbv) (Nat.zero_le _) ?_
    try dsimp only [AExit.then, AExit.block]
    repeat refine AWp.seq ?_
    refine AWp.cond (b := false) rfl (AWp.skip ?_)
    try dsimp only [AExit.then, AExit.block]
    by_cases h23 : 2 ≤ n ∧ n ≤ 3
    · rw [show (decide (2 ≤ n) && decide (n ≤ 3)) = true by simp [h23.1, h23.2]] at cb
      rw [show decide (2 ≤ c.length) = true by simp; omega, show decide (c.length ≤ 3) = true by simp; omega] at hF
      repeat refine AWp.seq ?_
      refine AWp.region ?_
      refine AOps.stepCall hT (an := {}) (fun A hA => by
          have f0 := ar_len hA C n hn
          repeat (cbv; simp only [f0])
          cbv) (Nat.zero_le _) rfl (.inr rfl) rfl rfl rfl (Nat.le_of_ble_eq_true rfl) rfl rfl (cb) ?_
      refine AOps.done hT (an := {}) (fun A hA => by cbv) (Nat.zero_le _) ?_
      try dsimp only [AExit.then, AExit.block]
      repeat refine AWp.seq ?_
      refine AWp.cond (b := false) rfl (AWp.skip ?_)
      try dsimp only [AExit.then, AExit.block]
      repeat refine AWp.seq ?_
      refine AWp.region ?_
      refine AOps.stepCall hT (an := {}) (fun A hA => by cbv) (Nat.zero_le _) rfl (.inr rfl) rfl rfl rfl (Nat.le_of_ble_eq_true rfl) rfl rfl (cst) ?_
      refine AOps.done hT (an := {}) (fun A hA => by cbv) (Nat.zero_le _) ?_
      try dsimp only [AExit.then, AExit.block]
      repeat refine AWp.seq ?_
      refine AWp.reg1 {tk := [7]} hT (fun A hA => by cbv) (Nat.zero_le _) ?_
      try dsimp only [AExit.then, AExit.block]
      repeat refine AWp.seq ?_
      refine AWp.reg1 {} hT (fun A hA => by
          have f0 := ar_len hA C n hn
          repeat (cbv; simp only [f0])
          cbv) (Nat.zero_le _) ?_
      try dsimp only [AExit.then, AExit.block]
      refine AWp.block (AWp.loopInv (ι := Int × List D) (fun p => 0 ≤ p.1 ∧ p.1 ≤ n ∧ p.2 = C.take p.1.toNat ∧ ∀ s ∈ c.take p.1.toNat, st.contains s = true) (fun p => (n - p.1).toNat) [0, 6, 7, 19, 20, 21]
        (fun p => { env := [(0, .d X), (6, .d (.list 3 S)), (7, .own 3 p.2), (19, .d (.list 3 C)), (20, AI n), (21, AI p.1)], heap := [], n := 37 }) (0, []) (by cbv) ⟨Int.le_refl _, by dsimp only; omega, by simp, by simp⟩ ?_)
      rintro ⟨z, L⟩ ⟨h0, h1, h2, h3⟩
      dsimp only at *
      by_cases hz : z < n
      · obtain ⟨z1, hz1⟩ : ∃ z1, z + 1 = z1 := ⟨_, rfl⟩
        obtain ⟨s, hs'⟩ : ∃ s, c[z.toNat]? = some s := ⟨_, List.getElem?_eq_getElem (by omega)⟩
        have hcs := ccn s
        obtain ⟨r, hr⟩ : ∃ r, st.contains s = r := ⟨_, rfl⟩
        rw [hr] at hcs
        have hCs : C[z.toNat]? = some (dSta s) := by rw [← hC, List.getElem?_map, hs']; rfl
        have hLl : L.length ≤ 3 := by rw [h2]; simp; omega
        have hno : r = false → F = false := fun h => by
          rw [← hF]
          have : c.all (fun s => st.contains s) = false := by
            rw [List.all_eq_false]
            exact ⟨s, List.mem_of_getElem? hs', by rw [hr, h]; decide⟩
          rw [this]; simp
        have htake : ∀ u ∈ c.take z1.toNat, r = true → st.contains u = true := fun u hu h => by
          rw [show z1.toNat = z.toNat + 1 by omega, List.take_add_one, hs'] at hu
          simp only [Option.toList_some, List.mem_append, List.mem_singleton] at hu
          rcases hu with hu | rfl
          · exact h3 u hu
          · rw [hr, h]
        have hCt : C.take z1.toNat = L ++ [dSta s] := by rw [show z1.toNat = z.toNat + 1 by omega, List.take_add_one, hCs, ← h2]; rfl
        obtain ⟨a, b, d⟩ := s
        unfold dSta at hcs hCs hCt
        dsimp only at hcs hCs hCt
        obtain ⟨L1, hL1⟩ : ∃ l3, L ++ [.agg [I a, I b, I d]] = l3 := ⟨_, rfl⟩
        repeat refine AWp.seq ?_
        refine AWp.reg1 {} hT (fun A hA => by
            have f0 := ar_lt hA hz
            repeat (cbv; simp only [f0])
            cbv) (Nat.zero_le _) ?_
        try dsimp only [AExit.then, AExit.block]
        repeat refine AWp.seq ?_
        refine AWp.cond (b := true) rfl (AWp.skip ?_)
        try dsimp only [AExit.then, AExit.block]
        repeat refine AWp.seq ?_
        refine AWp.block ?_
        repeat refine AWp.seq ?_
        refine AWp.reg1 {} hT (fun A hA => by
            have f0 := ar_get hA hCs
            have f1 := ar_le hA h0
            repeat (cbv; simp only [f0, f1])
            cbv) (Nat.zero_le _) ?_
        try dsimp only [AExit.then, AExit.block]
        repeat refine AWp.seq ?_
        refine AWp.region ?_
        refine AOps.stepCall hT (an := {}) (fun A hA => by cbv) (Nat.zero_le _) rfl (.inr rfl) rfl rfl rfl (Nat.le_of_ble_eq_true rfl) rfl rfl (hcs) ?_
        refine AOps.done hT (an := {}) (fun A hA => by cbv) (Nat.zero_le _) ?_
        try dsimp only [AExit.then, AExit.block]
        cases r with
        | false =>
          repeat refine AWp.seq ?_
          refine AWp.cond (b := true) rfl ?_
          rw [if_pos rfl]
          repeat refine AWp.seq ?_
          refine AWp.reg1 {} hT (fun A hA => by cbv) (Nat.zero_le _) ?_
          try dsimp only [AExit.then, AExit.block]
          repeat refine AWp.seq ?_
          refine AWp.ret ⟨?_, rfl, rfl, Nat.zero_le _, _, rfl⟩
          rw [hno rfl]; rfl
        | true =>
          repeat refine AWp.seq ?_
          refine AWp.cond (b := false) rfl (AWp.skip ?_)
          try dsimp only [AExit.then, AExit.block]
          repeat refine AWp.seq ?_
          refine AWp.reg1 {tk := [7, 29, 32]} hT (fun A hA => by
              have f0 := ar_app hA _ _ _ hL1
              have f1 := ar_fits hA L [.agg [I a, I b, I d]] (by simp; omega)
              repeat (cbv; simp only [f0, f1])
              cbv) (Nat.zero_le _) ?_
          try dsimp only [AExit.then, AExit.block]
          repeat refine AWp.seq ?_
          refine AWp.reg1 {} hT (fun A hA => by
              have f0 := ar_add hA z 1 z1 hz1 (by omega) (by omega)
              repeat (cbv; simp only [f0])
              cbv) (Nat.zero_le _) ?_
          try dsimp only [AExit.then, AExit.block]
          refine ⟨(z1, L1), ⟨by dsimp only; omega, by dsimp only; omega, ?_, fun u hu => htake u hu rfl⟩, by dsimp only; omega, by cbv⟩
          dsimp only
          rw [hCt, hL1]
      · have hzn : z = n := by omega
        subst hzn
        rw [List.take_of_length_le (by omega)] at h2 h3
        have hall : c.all (fun s => st.contains s) = true := by
          rw [List.all_eq_true]; exact h3
        have hcc := cci (by omega) (fun s hs => hst s (by have := h3 s hs; rwa [List.contains_eq_mem, decide_eq_true_eq] at this))
        rw [hall] at hF
        simp only [Bool.true_and] at hF
        rw [hF] at hcc
        subst h2
        repeat refine AWp.seq ?_
        refine AWp.reg1 {} hT (fun A hA => by
            have f0 := ar_nlt hA hz
            repeat (cbv; simp only [f0])
            cbv) (Nat.zero_le _) ?_
        try dsimp only [AExit.then, AExit.block]
        repeat refine AWp.seq ?_
        refine AWp.cond (b := false) rfl (AWp.exit ?_)
        try dsimp only [AExit.then, AExit.block]
        rw [if_pos rfl]
        repeat refine AWp.seq ?_
        refine AWp.region ?_
        refine AOps.stepCall hT (an := {}) (fun A hA => by cbv) (Nat.zero_le _) rfl (.inr rfl) rfl rfl rfl (Nat.le_of_ble_eq_true rfl) rfl rfl (hcc) ?_
        refine AOps.done hT (an := {}) (fun A hA => by cbv) (Nat.zero_le _) ?_
        try dsimp only [AExit.then, AExit.block]
        repeat refine AWp.seq ?_
        refine AWp.ret ⟨?_, rfl, rfl, Nat.zero_le _, _, rfl⟩
        rfl
    · have : (decide (2 ≤ n) && decide (n ≤ 3)) = false := by
        rw [Bool.and_eq_false_iff, decide_eq_false_iff_not, decide_eq_false_iff_not]; omega
      rw [this] at cb
      have hFf : F = false := by
        rw [← hF]
        by_cases h1 : 2 ≤ c.length
        · have : ¬ c.length ≤ 3 := by omega
          simp [this]
        · simp [h1]
      rw [hFf]
      repeat refine AWp.seq ?_
      refine AWp.region ?_
      refine AOps.stepCall hT (an := {}) (fun A hA => by
          have f0 := ar_len hA C n hn
          repeat (cbv; simp only [f0])
          cbv) (Nat.zero_le _) rfl (.inr rfl) rfl rfl rfl (Nat.le_of_ble_eq_true rfl) rfl rfl (cb) ?_
      refine AOps.done hT (an := {}) (fun A hA => by cbv) (Nat.zero_le _) ?_
      try dsimp only [AExit.then, AExit.block]
      repeat refine AWp.seq ?_
      refine AWp.cond (b := true) rfl ?_
      rw [if_pos rfl]
      repeat refine AWp.seq ?_
      refine AWp.reg1 {} hT (fun A hA => by cbv) (Nat.zero_le _) ?_
      try dsimp only [AExit.then, AExit.block]
      repeat refine AWp.seq ?_
      refine AWp.ret ⟨?_, rfl, rfl, Nat.zero_le _, _, rfl⟩
      rfl

/-- Which station comes first. -/
def earl (r s : Sta) : Bool := if r.1 ≠ s.1 then decide (r.1 < s.1) else if r.2.1 ≠ s.2.1 then decide (r.2.1 < s.2.1) else if r.2.2 ≠ s.2.2 then decide (r.2.2 < s.2.2) else false
theorem ar_nat {A : Ar} (hA : A = Ar.std) (n : Int) (k : Nat) (h : n.toNat = k) : A.nat n = k := by subst hA; exact h
theorem ar_l3 {A : Ar} (hA : A = Ar.std) (z : Int) (h : z < 3) : A.zlt z (Int.ofNat 3) = true := by subst hA; exact decide_eq_true h
theorem earlier_ok (r s : Sta) : ACall P 35 [.d (dSta r), .d (dSta s)] [] (AB (earl r s)) [] := by
  obtain ⟨a, b, c⟩ := r
  obtain ⟨a', b', c'⟩ := s
  unfold dSta earl
  dsimp only
  refine ACall.enter hT (fn := Try.f35) Try.func35 rfl (by decide) (by simp [Try.f35]) rfl rfl rfl rfl (Nat.le_refl _) ?_
  repeat refine AWp.seq ?_
  refine AWp.reg1 {} hT (fun A hA => by cbv) (Nat.zero_le _) ?_
  try dsimp only [AExit.then, AExit.block]
  repeat refine AWp.seq ?_
  refine AWp.reg1 {} hT (fun A hA => by cbv) (Nat.zero_le _) ?_
  try dsimp only [AExit.then, AExit.block]
  refine AWp.block (AWp.loopInv (ι := Int) (fun z => (z = 0 ∨ z = 1 ∨ z = 2 ∨ z = 3) ∧ (1 ≤ z → a = a') ∧ (2 ≤ z → b = b') ∧ (3 ≤ z → c = c')) (fun z => (3 - z).toNat) [2, 3, 6]
    (fun z => { env := [(2, .lbox [AI a, AI b, AI c]), (3, .lbox [AI a', AI b', AI c']), (6, AI z)], heap := [], n := 24 }) 0 (by cbv) ⟨.inl rfl, by omega, by omega, by omega⟩ ?_)
  rintro z ⟨h0 | h0 | h0 | h0, h1, h2, h3⟩
  · subst h0
    repeat refine AWp.seq ?_
    refine AWp.reg1 {} hT (fun A hA => by
        have f0 := ar_lt hA (show (0 : Int) < 3 by omega)
        repeat (cbv; simp only [f0])
        cbv) (Nat.zero_le _) ?_
    try dsimp only [AExit.then, AExit.block]
    repeat refine AWp.seq ?_
    refine AWp.cond (b := true) rfl (AWp.skip ?_)
    try dsimp only [AExit.then, AExit.block]
    repeat refine AWp.seq ?_
    refine AWp.block ?_
    repeat refine AWp.seq ?_
    refine AWp.reg1 {} hT (fun A hA => by cbv) (Nat.zero_le _) ?_
    try dsimp only [AExit.then, AExit.block]
    by_cases e : a = a'
    · repeat refine AWp.seq ?_
      refine AWp.reg1D {} hT rfl (fun A hA => by
          have f0 := ar_le hA (show (0 : Int) ≤ 0 by omega)
          have f1 := ar_l3 hA 0 (by omega)
          have f2 := ar_nat hA 0 0 rfl
          have f3 := ar_eq hA e
          repeat (cbv; simp only [f0, f1, f2, f3])
          cbv) (by kernel_rfl) (Nat.zero_le _) ?_
      try dsimp only [AExit.then, AExit.block]
      repeat refine AWp.seq ?_
      refine AWp.cond (b := false) rfl (AWp.skip ?_)
      try dsimp only [AExit.then, AExit.block]
      repeat refine AWp.seq ?_
      refine AWp.reg1 {} hT (fun A hA => by
          have f0 := ar_add hA 0 1 1 rfl (by omega) (by omega)
          repeat (cbv; simp only [f0])
          cbv) (Nat.zero_le _) ?_
      try dsimp only [AExit.then, AExit.block]
      exact ⟨1, ⟨by omega, fun _ => e, by omega, by omega⟩, by omega, by cbv⟩
    · obtain ⟨q, hq⟩ : ∃ q, decide (a < a') = q := ⟨_, rfl⟩
      have hlt : ∀ A : Ar, A = Ar.std → A.zlt a a' = q := fun A hA => by subst hA; exact hq
      repeat refine AWp.seq ?_
      refine AWp.reg1D {} hT rfl (fun A hA => by
          have f0 := ar_le hA (show (0 : Int) ≤ 0 by omega)
          have f1 := ar_l3 hA 0 (by omega)
          have f2 := ar_nat hA 0 0 rfl
          have f3 := ar_ne hA e
          repeat (cbv; simp only [f0, f1, f2, f3])
          cbv) (by kernel_rfl) (Nat.zero_le _) ?_
      try dsimp only [AExit.then, AExit.block]
      repeat refine AWp.seq ?_
      refine AWp.cond (b := true) rfl ?_
      rw [if_pos rfl]
      repeat refine AWp.seq ?_
      refine AWp.reg1D {} hT rfl (fun A hA => by
          have f0 := ar_le hA (show (0 : Int) ≤ 0 by omega)
          have f1 := ar_l3 hA 0 (by omega)
          have f2 := ar_nat hA 0 0 rfl
          have f3 := hlt A hA
          repeat (cbv; simp only [f0, f1, f2, f3])
          cbv) (by kernel_rfl) (Nat.zero_le _) ?_
      try dsimp only [AExit.then, AExit.block]
      repeat refine AWp.seq ?_
      refine AWp.ret ⟨?_, rfl, rfl, Nat.zero_le _, _, rfl⟩
      rw [if_pos e, hq]; rfl
  · subst h0
    have e1 := h1 (by omega)
    repeat refine AWp.seq ?_
    refine AWp.reg1 {} hT (fun A hA => by
        have f0 := ar_lt hA (show (1 : Int) < 3 by omega)
        repeat (cbv; simp only [f0])
        cbv) (Nat.zero_le _) ?_
    try dsimp only [AExit.then, AExit.block]
    repeat refine AWp.seq ?_
    refine AWp.cond (b := true) rfl (AWp.skip ?_)
    try dsimp only [AExit.then, AExit.block]
    repeat refine AWp.seq ?_
    refine AWp.block ?_
    repeat refine AWp.seq ?_
    refine AWp.reg1 {} hT (fun A hA => by cbv) (Nat.zero_le _) ?_
    try dsimp only [AExit.then, AExit.block]
    by_cases e : b = b'
    · repeat refine AWp.seq ?_
      refine AWp.reg1D {} hT rfl (fun A hA => by
          have f0 := ar_le hA (show (0 : Int) ≤ 1 by omega)
          have f1 := ar_l3 hA 1 (by omega)
          have f2 := ar_nat hA 1 1 rfl
          have f3 := ar_eq hA e
          repeat (cbv; simp only [f0, f1, f2, f3])
          cbv) (by kernel_rfl) (Nat.zero_le _) ?_
      try dsimp only [AExit.then, AExit.block]
      repeat refine AWp.seq ?_
      refine AWp.cond (b := false) rfl (AWp.skip ?_)
      try dsimp only [AExit.then, AExit.block]
      repeat refine AWp.seq ?_
      refine AWp.reg1 {} hT (fun A hA => by
          have f0 := ar_add hA 1 1 2 rfl (by omega) (by omega)
          repeat (cbv; simp only [f0])
          cbv) (Nat.zero_le _) ?_
      try dsimp only [AExit.then, AExit.block]
      exact ⟨2, ⟨by omega, fun _ => e1, fun _ => e, by omega⟩, by omega, by cbv⟩
    · obtain ⟨q, hq⟩ : ∃ q, decide (b < b') = q := ⟨_, rfl⟩
      have hlt : ∀ A : Ar, A = Ar.std → A.zlt b b' = q := fun A hA => by subst hA; exact hq
      repeat refine AWp.seq ?_
      refine AWp.reg1D {} hT rfl (fun A hA => by
          have f0 := ar_le hA (show (0 : Int) ≤ 1 by omega)
          have f1 := ar_l3 hA 1 (by omega)
          have f2 := ar_nat hA 1 1 rfl
          have f3 := ar_ne hA e
          repeat (cbv; simp only [f0, f1, f2, f3])
          cbv) (by kernel_rfl) (Nat.zero_le _) ?_
      try dsimp only [AExit.then, AExit.block]
      repeat refine AWp.seq ?_
      refine AWp.cond (b := true) rfl ?_
      rw [if_pos rfl]
      repeat refine AWp.seq ?_
      refine AWp.reg1D {} hT rfl (fun A hA => by
          have f0 := ar_le hA (show (0 : Int) ≤ 1 by omega)
          have f1 := ar_l3 hA 1 (by omega)
          have f2 := ar_nat hA 1 1 rfl
          have f3 := hlt A hA
          repeat (cbv; simp only [f0, f1, f2, f3])
          cbv) (by kernel_rfl) (Nat.zero_le _) ?_
      try dsimp only [AExit.then, AExit.block]
      repeat refine AWp.seq ?_
      refine AWp.ret ⟨?_, rfl, rfl, Nat.zero_le _, _, rfl⟩
      rw [if_neg (by simpa using e1), if_pos e, hq]; rfl
  · subst h0
    have e1 := h1 (by omega)
    have e2 := h2 (by omega)
    repeat refine AWp.seq ?_
    refine AWp.reg1 {} hT (fun A hA => by
        have f0 := ar_lt hA (show (2 : Int) < 3 by omega)
        repeat (cbv; simp only [f0])
        cbv) (Nat.zero_le _) ?_
    try dsimp only [AExit.then, AExit.block]
    repeat refine AWp.seq ?_
    refine AWp.cond (b := true) rfl (AWp.skip ?_)
    try dsimp only [AExit.then, AExit.block]
    repeat refine AWp.seq ?_
    refine AWp.block ?_
    repeat refine AWp.seq ?_
    refine AWp.reg1 {} hT (fun A hA => by cbv) (Nat.zero_le _) ?_
    try dsimp only [AExit.then, AExit.block]
    by_cases e : c = c'
    · repeat refine AWp.seq ?_
      refine AWp.reg1D {} hT rfl (fun A hA => by
          have f0 := ar_le hA (show (0 : Int) ≤ 2 by omega)
          have f1 := ar_l3 hA 2 (by omega)
          have f2 := ar_nat hA 2 2 rfl
          have f3 := ar_eq hA e
          repeat (cbv; simp only [f0, f1, f2, f3])
          cbv) (by kernel_rfl) (Nat.zero_le _) ?_
      try dsimp only [AExit.then, AExit.block]
      repeat refine AWp.seq ?_
      refine AWp.cond (b := false) rfl (AWp.skip ?_)
      try dsimp only [AExit.then, AExit.block]
      repeat refine AWp.seq ?_
      refine AWp.reg1 {} hT (fun A hA => by
          have f0 := ar_add hA 2 1 3 rfl (by omega) (by omega)
          repeat (cbv; simp only [f0])
          cbv) (Nat.zero_le _) ?_
      try dsimp only [AExit.then, AExit.block]
      exact ⟨3, ⟨by omega, fun _ => e1, fun _ => e2, fun _ => e⟩, by omega, by cbv⟩
    · obtain ⟨q, hq⟩ : ∃ q, decide (c < c') = q := ⟨_, rfl⟩
      have hlt : ∀ A : Ar, A = Ar.std → A.zlt c c' = q := fun A hA => by subst hA; exact hq
      repeat refine AWp.seq ?_
      refine AWp.reg1D {} hT rfl (fun A hA => by
          have f0 := ar_le hA (show (0 : Int) ≤ 2 by omega)
          have f1 := ar_l3 hA 2 (by omega)
          have f2 := ar_nat hA 2 2 rfl
          have f3 := ar_ne hA e
          repeat (cbv; simp only [f0, f1, f2, f3])
          cbv) (by kernel_rfl) (Nat.zero_le _) ?_
      try dsimp only [AExit.then, AExit.block]
      repeat refine AWp.seq ?_
      refine AWp.cond (b := true) rfl ?_
      rw [if_pos rfl]
      repeat refine AWp.seq ?_
      refine AWp.reg1D {} hT rfl (fun A hA => by
          have f0 := ar_le hA (show (0 : Int) ≤ 2 by omega)
          have f1 := ar_l3 hA 2 (by omega)
          have f2 := ar_nat hA 2 2 rfl
          have f3 := hlt A hA
          repeat (cbv; simp only [f0, f1, f2, f3])
          cbv) (by kernel_rfl) (Nat.zero_le _) ?_
      try dsimp only [AExit.then, AExit.block]
      repeat refine AWp.seq ?_
      refine AWp.ret ⟨?_, rfl, rfl, Nat.zero_le _, _, rfl⟩
      rw [if_neg (by simpa using e1), if_neg (by simpa using e2), if_pos e, hq]; rfl
  · subst h0
    have e1 := h1 (by omega)
    have e2 := h2 (by omega)
    have e3 := h3 (by omega)
    repeat refine AWp.seq ?_
    refine AWp.reg1 {} hT (fun A hA => by
        have f0 := ar_nlt hA (show ¬ (3 : Int) < 3 by omega)
        repeat (cbv; simp only [f0])
        cbv) (Nat.zero_le _) ?_
    try dsimp only [AExit.then, AExit.block]
    repeat refine AWp.seq ?_
    refine AWp.cond (b := false) rfl (AWp.exit ?_)
    try dsimp only [AExit.then, AExit.block]
    rw [if_pos rfl]
    repeat refine AWp.seq ?_
    refine AWp.reg1 {} hT (fun A hA => by cbv) (Nat.zero_le _) ?_
    try dsimp only [AExit.then, AExit.block]
    repeat refine AWp.seq ?_
    refine AWp.ret ⟨?_, rfl, rfl, Nat.zero_le _, _, rfl⟩
    rw [if_neg (by simpa using e1), if_neg (by simpa using e2), if_neg (by simpa using e3)]; rfl

/-- Whether all pairs of a circle are among some pairs. -/
def allIn (p c : List Sta) : Bool := c.all fun s => decide (s.2.1 = s.2.2) || p.contains s
theorem all_ok (p c : List Sta) (hp : p.length ≤ 9223372036854775807) (hc : c.length ≤ 9223372036854775807) : ACall P 36 [.d (.list 3 (p.map dSta)), .d (.list 3 (c.map dSta))] [] (AB (allIn p c)) [] := by
  have cin := fun s => in_sta_ok p s hp
  obtain ⟨F, hF⟩ : ∃ F, allIn p c = F := ⟨_, rfl⟩
  rw [hF]
  unfold allIn at hF
  obtain ⟨X, hX⟩ : ∃ X, p.map dSta = X := ⟨_, rfl⟩
  obtain ⟨C, hC⟩ : ∃ X, c.map dSta = X := ⟨_, rfl⟩
  obtain ⟨n, hn⟩ : ∃ n : Int, (C.length : Int) = n := ⟨_, rfl⟩
  have hcn : (c.length : Int) = n := by rw [← hn, ← hC]; simp
  simp only [hX] at cin
  rw [hX, hC]
  refine ACall.enter hT (fn := Try.f36) Try.func36 rfl (by decide) (by simp [Try.f36]) rfl rfl rfl rfl (Nat.le_refl _) ?_
  repeat refine AWp.seq ?_
  refine AWp.reg1 {} hT (fun A hA => by cbv) (Nat.zero_le _) ?_
  try dsimp only [AExit.then, AExit.block]
  repeat refine AWp.seq ?_
  refine AWp.reg1 {} hT (fun A hA => by
      have f0 := ar_len hA C n hn
      repeat (cbv; simp only [f0])
      cbv) (Nat.zero_le _) ?_
  try dsimp only [AExit.then, AExit.block]
  refine AWp.block (AWp.loopInv (ι := Int) (fun z => 0 ≤ z ∧ z ≤ n ∧ ∀ s ∈ c.take z.toNat, (decide (s.2.1 = s.2.2) || p.contains s) = true) (fun z => (n - z).toNat) [0, 7, 8, 9]
    (fun z => { env := [(0, .d (.list 3 X)), (7, .d (.list 3 C)), (8, AI n), (9, AI z)], heap := [], n := 25 }) 0 (by cbv) ⟨Int.le_refl _, by omega, by simp⟩ ?_)
  rintro z ⟨h0, h1, h2⟩
  by_cases hz : z < n
  · obtain ⟨z1, hz1⟩ : ∃ z1, z + 1 = z1 := ⟨_, rfl⟩
    obtain ⟨s, hs⟩ : ∃ s, c[z.toNat]? = some s := ⟨_, List.getElem?_eq_getElem (by omega)⟩
    have hci := cin s
    obtain ⟨r, hr⟩ : ∃ r, p.contains s = r := ⟨_, rfl⟩
    rw [hr] at hci
    have hno : (decide (s.2.1 = s.2.2) || r) = false → F = false := fun h => by
      rw [← hF, List.all_eq_false]
      exact ⟨s, List.mem_of_getElem? hs, by rw [hr, h]; decide⟩
    have hyes : (decide (s.2.1 = s.2.2) || r) = true → ∀ u ∈ c.take z1.toNat, (decide (u.2.1 = u.2.2) || p.contains u) = true := fun h u hu => by
      rw [show z1.toNat = z.toNat + 1 by omega, List.take_add_one, hs] at hu
      simp only [Option.toList_some, List.mem_append, List.mem_singleton] at hu
      rcases hu with hu | rfl
      · exact h2 u hu
      · rw [hr]; exact h
    have hCs : C[z.toNat]? = some (dSta s) := by rw [← hC, List.getElem?_map, hs]; rfl
    obtain ⟨t, a, b⟩ := s
    unfold dSta at hCs hci
    dsimp only at hCs hci hno hyes
    repeat refine AWp.seq ?_
    refine AWp.reg1 {} hT (fun A hA => by
        have f0 := ar_lt hA hz
        repeat (cbv; simp only [f0])
        cbv) (Nat.zero_le _) ?_
    try dsimp only [AExit.then, AExit.block]
    repeat refine AWp.seq ?_
    refine AWp.cond (b := true) rfl (AWp.skip ?_)
    try dsimp only [AExit.then, AExit.block]
    repeat refine AWp.seq ?_
    refine AWp.block ?_
    repeat refine AWp.seq ?_
    refine AWp.reg1 {} hT (fun A hA => by
        have f0 := ar_get hA hCs
        have f1 := ar_le hA h0
        repeat (cbv; simp only [f0, f1])
        cbv) (Nat.zero_le _) ?_
    try dsimp only [AExit.then, AExit.block]
    by_cases e : a = b
    · repeat refine AWp.seq ?_
      refine AWp.reg1 {} hT (fun A hA => by
          have f0 := ar_eq hA e
          repeat (cbv; simp only [f0])
          cbv) (Nat.zero_le _) ?_
      try dsimp only [AExit.then, AExit.block]
      repeat refine AWp.seq ?_
      refine AWp.cond (b := false) rfl (AWp.skip ?_)
      try dsimp only [AExit.then, AExit.block]
      repeat refine AWp.seq ?_
      refine AWp.reg1 {} hT (fun A hA => by
          have f0 := ar_add hA z 1 z1 hz1 (by omega) (by omega)
          repeat (cbv; simp only [f0])
          cbv) (Nat.zero_le _) ?_
      try dsimp only [AExit.then, AExit.block]
      exact ⟨z1, ⟨by omega, by omega, hyes (by simp [e])⟩, by omega, by cbv⟩
    · repeat refine AWp.seq ?_
      refine AWp.region ?_
      refine AOps.stepCall hT (an := {}) (fun A hA => by
          have f0 := ar_ne hA e
          repeat (cbv; simp only [f0])
          cbv) (Nat.zero_le _) rfl (.inr rfl) rfl rfl rfl (Nat.le_of_ble_eq_true rfl) rfl rfl (hci) ?_
      refine AOps.done hT (an := {}) (fun A hA => by cbv) (Nat.zero_le _) ?_
      try dsimp only [AExit.then, AExit.block]
      cases r with
      | true =>
        repeat refine AWp.seq ?_
        refine AWp.cond (b := false) rfl (AWp.skip ?_)
        try dsimp only [AExit.then, AExit.block]
        repeat refine AWp.seq ?_
        refine AWp.reg1 {} hT (fun A hA => by
            have f0 := ar_add hA z 1 z1 hz1 (by omega) (by omega)
            repeat (cbv; simp only [f0])
            cbv) (Nat.zero_le _) ?_
        try dsimp only [AExit.then, AExit.block]
        exact ⟨z1, ⟨by omega, by omega, hyes (by simp)⟩, by omega, by cbv⟩
      | false =>
        repeat refine AWp.seq ?_
        refine AWp.cond (b := true) rfl ?_
        rw [if_pos rfl]
        repeat refine AWp.seq ?_
        refine AWp.reg1 {} hT (fun A hA => by cbv) (Nat.zero_le _) ?_
        try dsimp only [AExit.then, AExit.block]
        repeat refine AWp.seq ?_
        refine AWp.ret ⟨?_, rfl, rfl, Nat.zero_le _, _, rfl⟩
        rw [hno (by simp [e])]; rfl
  · repeat refine AWp.seq ?_
    refine AWp.reg1 {} hT (fun A hA => by
        have f0 := ar_nlt hA hz
        repeat (cbv; simp only [f0])
        cbv) (Nat.zero_le _) ?_
    try dsimp only [AExit.then, AExit.block]
    repeat refine AWp.seq ?_
    refine AWp.cond (b := false) rfl (AWp.exit ?_)
    try dsimp only [AExit.then, AExit.block]
    rw [if_pos rfl]
    repeat refine AWp.seq ?_
    refine AWp.reg1 {} hT (fun A hA => by cbv) (Nat.zero_le _) ?_
    try dsimp only [AExit.then, AExit.block]
    repeat refine AWp.seq ?_
    refine AWp.ret ⟨?_, rfl, rfl, Nat.zero_le _, _, rfl⟩
    rw [List.take_of_length_le (by omega)] at h2
    have : F = true := by rw [← hF, List.all_eq_true]; exact h2
    rw [this]; rfl
end Go.Am

set_option maxRecDepth 100000
set_option linter.unusedVariables false
set_option linter.unusedSimpArgs false
namespace Go.Am
open Go Go.Proofs
theorem runY_live {S : Type} {step : S → List Sta → S × Bool} {live : S → Prop} (hlive : ∀ s l, live s → (step s l).2 = true → live (step s l).1) : ∀ (ls : List (List Sta)) (s s' : S), live s → runY step s ls = (s', true) → live s'
  | [], s, s', h, e => by
    unfold runY at e; injection e with e; exact e ▸ h
  | l :: r, s, s', h, e => by
    unfold runY at e
    split at e
    · rename_i hb; exact runY_live hlive r _ _ (hlive s l h hb) e
    · injection e with _ e; cases e
/-- The objects of a walk over circles. -/
def heapC3 (X : D) (A1 A2 A3 B : Obj) (LA : List D) : List Obj := [A1, A2, A3, B, .cells [.d X], .cells [.yield 3], .cells [.d (.list 3 LA)], .cells [.func 110 [] [.ptr 4 0, .ptr 5 0, .ptr 6 0, .ptr 7 0]]]

theorem grow_ok3 {S : Type} (A1 A2 A3 B : S → Obj) (hAB : ∀ s m, 4 ≤ m → (A1 s).inb m = true ∧ (A2 s).inb m = true ∧ (A3 s).inb m = true ∧ (B s).inb m = true) (step : S → List Sta → S × Bool) (x : List (List Acc)) (hx : Small x) (all : List Sta) (hall : ∀ s ∈ all, isThere x s = true) (halln : all.length ≤ 1000000000000)
    (live : S → Prop) (hlive : ∀ s l, live s → (step s l).2 = true → live (step s l).1) (hy : ∀ s l, live s → l.length ≤ 3 → YCall P 3 [.d (.list 3 (l.map dSta))] [A1 s, A2 s, A3 s, B s] (AB (step s l).2) [A1 (step s l).1, A2 (step s l).1, A3 (step s l).1, B (step s l).1]) :
    ∀ (k : Nat) (l : List Sta) (s : S), live s → l.length + k = 3 → (∀ u ∈ l, isThere x u = true) →
      ACall P 110 [.d (.list 3 (l.map dSta)), .ptr 4 0, .ptr 5 0, .ptr 6 0, .ptr 7 0] (heapC3 (dX x) (A1 s) (A2 s) (A3 s) (B s) (all.map dSta)) (AB (runY step s (circFrom x all k l)).2)
        (heapC3 (dX x) (A1 (runY step s (circFrom x all k l)).1) (A2 (runY step s (circFrom x all k l)).1) (A3 (runY step s (circFrom x all k l)).1) (B (runY step s (circFrom x all k l)).1) (all.map dSta)) := by
  intro k
  induction k with
  | zero =>
    intro l s hs0 hlk hlt
    have ci := isCircle_ok x hx l (by omega) hlt
    have hys := hy s l hs0 (by omega)
    have hrun : runY step s (circFrom x all 0 l) = if isCircle x l then step s l else (s, true) := by
      unfold circFrom circHere
      rw [show decide (2 ≤ l.length) = true by simp; omega]
      cases isCircle x l
      · rfl
      · cases h : step s l with | mk s' b => cases b <;> simp [runY, h]
    rw [hrun]
    obtain ⟨X, hX⟩ : ∃ X, dX x = X := ⟨_, rfl⟩
    obtain ⟨L, hL⟩ : ∃ L, l.map dSta = L := ⟨_, rfl⟩
    obtain ⟨LA, hLA⟩ : ∃ L, all.map dSta = L := ⟨_, rfl⟩
    have hn : (L.length : Int) = 3 := by rw [← hL]; simp; omega
    obtain ⟨ic, hic⟩ : ∃ b, isCircle x l = b := ⟨_, rfl⟩
    obtain ⟨⟨s', b'⟩, hst⟩ : ∃ p, step s l = p := ⟨_, rfl⟩
    rw [hst] at hys
    rw [hX, hL, hic] at ci
    rw [hL] at hys
    rw [hX, hL, hLA, hic, hst]
    dsimp only at hys
    have hin : ∀ s, objsInb (heapC3 X (A1 s) (A2 s) (A3 s) (B s) LA).length (heapC3 X (A1 s) (A2 s) (A3 s) (B s) LA) = true := fun s => by
      obtain ⟨h1, h2, h3, h4⟩ := hAB s 8 (by omega)
      show ((A1 s).inb 8 && ((A2 s).inb 8 && ((A3 s).inb 8 && ((B s).inb 8 && _)))) = true
      rw [h1, h2, h3, h4]; rfl
    refine ACall.enter hT (fn := Try.f110) Try.func110 rfl (by decide) (by simp [Try.f110]) rfl rfl rfl (by cases ic <;> exact hin _) (by cases ic <;> exact Nat.le_refl _) ?_
    unfold heapC3 at *
    have hin2 : ∀ s, objsInb [A1 s, A2 s, A3 s, B s].length [A1 s, A2 s, A3 s, B s] = true := fun s => by
      obtain ⟨h1, h2, h3, h4⟩ := hAB s 4 (Nat.le_refl _)
      show ((A1 s).inb 4 && ((A2 s).inb 4 && ((A3 s).inb 4 && ((B s).inb 4 && _)))) = true
      rw [h1, h2, h3, h4]; rfl
    repeat refine AWp.seq ?_
    refine AWp.reg1 {} hT (fun A hA => by cbv) (Nat.le_refl _) ?_
    try dsimp only [AExit.then, AExit.block]
    repeat refine AWp.seq ?_
    refine AWp.region ?_
    refine AOps.stepCall hT (an := {}) (fun A hA => by
        have f0 := ar_len hA L 3 hn
        have f1 := ar_le hA (show (2 : Int) ≤ 3 by omega)
        repeat (cbv; simp only [f0, f1])
        cbv) (Nat.le_refl _) rfl (.inr rfl) rfl rfl rfl (Nat.le_of_ble_eq_true rfl) rfl rfl (ci) ?_
    cases ic with
    | false =>
      refine AOps.done hT (an := {}) (fun A hA => by cbv) (Nat.le_refl _) ?_
      try dsimp only [AExit.then, AExit.block]
      repeat refine AWp.seq ?_
      refine AWp.cond (b := false) rfl (AWp.skip ?_)
      try dsimp only [AExit.then, AExit.block]
      repeat refine AWp.seq ?_
      refine AWp.reg1 {} hT (fun A hA => by
          have f0 := ar_len hA L 3 hn
          have f1 := ar_eq hA (show (3 : Int) = 3 by omega)
          repeat (cbv; simp only [f0, f1])
          cbv) (Nat.le_refl _) ?_
      try dsimp only [AExit.then, AExit.block]
      repeat refine AWp.seq ?_
      refine AWp.cond (b := true) rfl ?_
      rw [if_pos rfl]
      repeat refine AWp.seq ?_
      refine AWp.reg1 {} hT (fun A hA => by cbv) (Nat.le_refl _) ?_
      try dsimp only [AExit.then, AExit.block]
      refine AWp.ret ⟨rfl, rfl, hin _, Nat.le_refl _, [], rfl⟩
    | true =>
      refine AOps.stepY hT (an := {}) (H := [A1 s, A2 s, A3 s, B s]) (H' := [A1 s', A2 s', A3 s', B s']) (fun A hA => by cbv) (Nat.le_refl _) rfl (.inr rfl) (hin2 s) rfl rfl (Nat.le_of_ble_eq_true rfl) rfl rfl hys ?_
      cases b' with
      | true =>
        refine AOps.done hT (an := {}) (fun A hA => by cbv) (Nat.le_refl _) ?_
        try dsimp only [AExit.then, AExit.block]
        repeat refine AWp.seq ?_
        refine AWp.cond (b := false) rfl (AWp.skip ?_)
        try dsimp only [AExit.then, AExit.block]
        repeat refine AWp.seq ?_
        refine AWp.reg1 {} hT (fun A hA => by
            have f0 := ar_len hA L 3 hn
            have f1 := ar_eq hA (show (3 : Int) = 3 by omega)
            repeat (cbv; simp only [f0, f1])
            cbv) (Nat.le_refl _) ?_
        try dsimp only [AExit.then, AExit.block]
        repeat refine AWp.seq ?_
        refine AWp.cond (b := true) rfl ?_
        rw [if_pos rfl]
        repeat refine AWp.seq ?_
        refine AWp.reg1 {} hT (fun A hA => by cbv) (Nat.le_refl _) ?_
        try dsimp only [AExit.then, AExit.block]
        refine AWp.ret ⟨rfl, rfl, hin _, Nat.le_refl _, [], rfl⟩
      | false =>
        refine AOps.done hT (an := {}) (fun A hA => by cbv) (Nat.le_refl _) ?_
        try dsimp only [AExit.then, AExit.block]
        repeat refine AWp.seq ?_
        refine AWp.cond (b := true) rfl ?_
        rw [if_pos rfl]
        repeat refine AWp.seq ?_
        refine AWp.reg1 {} hT (fun A hA => by cbv) (Nat.le_refl _) ?_
        try dsimp only [AExit.then, AExit.block]
        refine AWp.ret ⟨rfl, rfl, hin _, Nat.le_refl _, [], rfl⟩
  | succ k ih =>
    intro l s hs0 hlk hlt
    have ci := isCircle_ok x hx l (by omega) hlt
    have hys := hy s l hs0 (by omega)
    obtain ⟨Gn, hGn⟩ : ∃ Gn : Sta → List (List Sta), Gn = fun st => if nextOk x l st then circFrom x all k (l ++ [st]) else [] := ⟨_, rfl⟩
    have hrun : runY step s (circFrom x all (k + 1) l) = if (runY step s (circHere x l)).2 then runY step (runY step s (circHere x l)).1 (all.flatMap Gn) else runY step s (circHere x l) := by
      rw [hGn]; exact runY_append _ _ _ _
    have hhere : runY step s (circHere x l) = if decide (2 ≤ l.length) && isCircle x l then step s l else (s, true) := by
      unfold circHere
      split
      · cases h : step s l with | mk s' b => cases b <;> simp [runY, h]
      · rfl
    have hG : ∀ st, Gn st = if nextOk x l st then circFrom x all k (l ++ [st]) else [] := fun st => by rw [hGn]
    have hnx : ∀ st, nextOk x l st = (decide (l.length = 0) || conflict x (lastOf l).1 (lastOf l).2.2 st.1 st.2.1) := fun st => rfl
    have ih' : ∀ (s : S) (st : Sta), live s → st ∈ all → ACall P 110 [.d (.list 3 (l.map dSta ++ [dSta st])), .ptr 4 0, .ptr 5 0, .ptr 6 0, .ptr 7 0] (heapC3 (dX x) (A1 s) (A2 s) (A3 s) (B s) (all.map dSta)) (AB (runY step s (circFrom x all k (l ++ [st]))).2)
        (heapC3 (dX x) (A1 (runY step s (circFrom x all k (l ++ [st]))).1) (A2 (runY step s (circFrom x all k (l ++ [st]))).1) (A3 (runY step s (circFrom x all k (l ++ [st]))).1) (B (runY step s (circFrom x all k (l ++ [st]))).1) (all.map dSta)) := fun s st hsl hst => by
      have := ih (l ++ [st]) s hsl (by simp; omega) (fun u hu => by
        rcases List.mem_append.1 hu with h | h
        · exact hlt u h
        · simp at h; subst h; exact hall u hst)
      rwa [List.map_append] at this
    have hlast : l.length ≠ 0 → lastOf l ∈ l ∧ l[l.length - 1]? = some (lastOf l) := fun h => by
      have h1 : l.length - 1 < l.length := by omega
      have h2 : l[l.length - 1]? = some (lastOf l) := by unfold lastOf; rw [List.getD_eq_getElem?_getD, List.getElem?_eq_getElem h1]; rfl
      exact ⟨List.mem_of_getElem? h2, h2⟩
    have hconf : ∀ u, isThere x u = true → ∀ v, isThere x v = true → ACall P 63 [.d (dX x), .d (.agg [I u.1, I u.2.2]), .d (.agg [I v.1, I v.2.1])] [] (AB (conflict x u.1 u.2.2 v.1 v.2.1)) [] := fun u hu v hv =>
      conflict_ok x _ _ _ _ (by unfold isThere at hu; simp at hu; exact hu.2) (by unfold isThere at hv; simp at hv; exact hv.1)
    rw [hrun]
    generalize hres : runY step s (circHere x l) = res at *
    obtain ⟨X, hX⟩ : ∃ X, dX x = X := ⟨_, rfl⟩
    obtain ⟨L, hL⟩ : ∃ L, l.map dSta = L := ⟨_, rfl⟩
    obtain ⟨LA, hLA⟩ : ∃ L, all.map dSta = L := ⟨_, rfl⟩
    obtain ⟨n, hn⟩ : ∃ n : Int, (L.length : Int) = n := ⟨_, rfl⟩
    have hln : (l.length : Int) = n := by rw [← hn, ← hL]; simp
    obtain ⟨N, hN⟩ : ∃ n : Int, (LA.length : Int) = n := ⟨_, rfl⟩
    have hlN : (all.length : Int) = N := by rw [← hN, ← hLA]; simp
    obtain ⟨ic, hic⟩ : ∃ b, isCircle x l = b := ⟨_, rfl⟩
    obtain ⟨⟨s', b'⟩, hst⟩ : ∃ p, step s l = p := ⟨_, rfl⟩
    rw [hst] at hys hhere
    rw [hX, hL, hic] at ci
    rw [hic] at hhere
    rw [hL] at hys
    rw [hX, hL, hLA] at ih' ⊢
    simp only [hX] at hconf
    dsimp only at hys
    have hin : ∀ s, objsInb (heapC3 X (A1 s) (A2 s) (A3 s) (B s) LA).length (heapC3 X (A1 s) (A2 s) (A3 s) (B s) LA) = true := fun s => by
      obtain ⟨h1, h2, h3, h4⟩ := hAB s 8 (by omega)
      show ((A1 s).inb 8 && ((A2 s).inb 8 && ((A3 s).inb 8 && ((B s).inb 8 && _)))) = true
      rw [h1, h2, h3, h4]; rfl
    have hin2 : ∀ s, objsInb [A1 s, A2 s, A3 s, B s].length [A1 s, A2 s, A3 s, B s] = true := fun s => by
      obtain ⟨h1, h2, h3, h4⟩ := hAB s 4 (by omega)
      show ((A1 s).inb 4 && ((A2 s).inb 4 && ((A3 s).inb 4 && ((B s).inb 4 && _)))) = true
      rw [h1, h2, h3, h4]; rfl
    obtain ⟨⟨fs, fb⟩, hfin⟩ : ∃ p, (if res.2 then runY step res.1 (all.flatMap Gn) else res) = p := ⟨_, rfl⟩
    rw [hfin]
    refine ACall.enter hT (fn := Try.f110) Try.func110 rfl (by decide) (by simp [Try.f110]) rfl rfl rfl (hin _) (Nat.le_refl _) ?_
    unfold heapC3 at *
    repeat refine AWp.seq ?_
    refine AWp.reg1 {} hT (fun A hA => by cbv) (Nat.le_of_ble_eq_true rfl) ?_
    try dsimp only [AExit.then, AExit.block]
    refine AWp.cut (fun σ' => ∃ s1, res = (s1, true) ∧ σ'.keep [0, 1, 2, 3, 4] = { env := [(0, .d (.list 3 L)), (1, .ptr 4 0), (2, .ptr 5 0), (3, .ptr 6 0), (4, .ptr 7 0)], heap := heapC3 X (A1 s1) (A2 s1) (A3 s1) (B s1) LA, n := 62 }) ?_ ?_
    · unfold heapC3
      by_cases h2 : 2 ≤ n
      · rw [show decide (2 ≤ l.length) = true by simp; omega] at hhere
        repeat refine AWp.seq ?_
        refine AWp.region ?_
        refine AOps.stepCall hT (an := {}) (fun A hA => by
            have f0 := ar_len hA L n hn
            have f1 := ar_le hA h2
            repeat (cbv; simp only [f0, f1])
            cbv) (Nat.le_of_ble_eq_true rfl) rfl (.inr rfl) rfl rfl rfl (Nat.le_of_ble_eq_true rfl) rfl rfl (ci) ?_
        cases ic with
        | false =>
          refine AOps.done hT (an := {}) (fun A hA => by cbv) (Nat.le_of_ble_eq_true rfl) ?_
          try dsimp only [AExit.then, AExit.block]
          repeat refine AWp.seq ?_
          refine AWp.cond (b := false) rfl (AWp.skip ?_)
          try dsimp only [AExit.then, AExit.block]
          exact ⟨s, hhere, by cbv⟩
        | true =>
          refine AOps.stepY hT (an := {}) (H := [A1 s, A2 s, A3 s, B s]) (H' := [A1 s', A2 s', A3 s', B s']) (fun A hA => by cbv) (Nat.le_refl _) rfl (.inr rfl) (hin2 s) rfl rfl (Nat.le_of_ble_eq_true rfl) rfl rfl hys ?_
          cases b' with
          | true =>
            refine AOps.done hT (an := {}) (fun A hA => by cbv) (Nat.le_of_ble_eq_true rfl) ?_
            try dsimp only [AExit.then, AExit.block]
            repeat refine AWp.seq ?_
            refine AWp.cond (b := false) rfl (AWp.skip ?_)
            try dsimp only [AExit.then, AExit.block]
            exact ⟨s', hhere, by cbv⟩
          | false =>
            refine AOps.done hT (an := {}) (fun A hA => by cbv) (Nat.le_of_ble_eq_true rfl) ?_
            try dsimp only [AExit.then, AExit.block]
            repeat refine AWp.seq ?_
            refine AWp.cond (b := true) rfl ?_
            rw [if_pos rfl]
            repeat refine AWp.seq ?_
            refine AWp.reg1 {} hT (fun A hA => by cbv) (Nat.le_of_ble_eq_true rfl) ?_
            try dsimp only [AExit.then, AExit.block]
            have : (fs, fb) = (s', false) := by rw [← hfin, hhere]; rfl
            injection this with e1 e2; subst e1 e2
            refine AWp.ret ⟨rfl, rfl, hin _, Nat.le_refl _, [], rfl⟩
      · rw [show decide (2 ≤ l.length) = false by simp; omega] at hhere
        repeat refine AWp.seq ?_
        refine AWp.reg1 {} hT (fun A hA => by
            have f0 := ar_len hA L n hn
            have f1 := ar_nle hA h2
            repeat (cbv; simp only [f0, f1])
            cbv) (Nat.le_of_ble_eq_true rfl) ?_
        try dsimp only [AExit.then, AExit.block]
        repeat refine AWp.seq ?_
        refine AWp.cond (b := false) rfl (AWp.skip ?_)
        try dsimp only [AExit.then, AExit.block]
        exact ⟨s, hhere, by cbv⟩
    · rintro σ1 ⟨s1, hs1, hσ1⟩
      refine AWp.keep [0, 1, 2, 3, 4] ?_
      rw [hσ1]
      unfold heapC3
      rw [hs1] at hfin
      simp only [if_true] at hfin
      repeat refine AWp.seq ?_
      refine AWp.reg1 {} hT (fun A hA => by
          have f0 := ar_len hA L n hn
          have f1 := ar_ne hA (show ¬ n = 3 by omega)
          repeat (cbv; simp only [f0, f1])
          cbv) (Nat.le_of_ble_eq_true rfl) ?_
      try dsimp only [AExit.then, AExit.block]
      repeat refine AWp.seq ?_
      refine AWp.cond (b := false) rfl (AWp.skip ?_)
      try dsimp only [AExit.then, AExit.block]
      repeat refine AWp.seq ?_
      refine AWp.reg1 {} hT (fun A hA => by
          have f0 := ar_len hA LA N hN
          repeat (cbv; simp only [f0])
          cbv) (Nat.le_of_ble_eq_true rfl) ?_
      try dsimp only [AExit.then, AExit.block]
      refine AWp.block (AWp.loopH (ι := Int × S) (fun p => 0 ≤ p.1 ∧ p.1 ≤ N ∧ runY step s1 ((all.take p.1.toNat).flatMap Gn) = (p.2, true)) (fun p => (N - p.1).toNat) [0, 1, 2, 3, 4, 26, 27, 28] 8
        (fun p => { env := [(0, .d (.list 3 L)), (1, .ptr 4 0), (2, .ptr 5 0), (3, .ptr 6 0), (4, .ptr 7 0), (26, .d (.list 3 LA)), (27, AI N), (28, AI p.1)], heap := heapC3 X (A1 p.2) (A2 p.2) (A3 p.2) (B p.2) LA, n := 62 }) (0, s1) (Nat.le_refl _) (by exact hin s1) (by cbv) ⟨Int.le_refl _, by omega, by simp [runY]⟩ ?_)
      rintro ⟨z, s2⟩ ⟨h0, h1, hr⟩
      dsimp only at *
      unfold heapC3
      by_cases hz : z < N
      · obtain ⟨⟨t, a, b⟩, hs⟩ : ∃ s, all[z.toNat]? = some s := ⟨_, List.getElem?_eq_getElem (by omega)⟩
        have hLz : LA[z.toNat]? = some (.agg [I t, I a, I b]) := by rw [← hLA, List.getElem?_map, hs]; rfl
        obtain ⟨z1, hz1⟩ : ∃ z1, z + 1 = z1 := ⟨_, rfl⟩
        have hz1n : z1.toNat = z.toNat + 1 := by omega
        have hmem := List.mem_of_getElem? hs
        have hnext : (all.take z1.toNat).flatMap Gn = (all.take z.toNat).flatMap Gn ++ Gn (t, a, b) := by
          rw [hz1n, List.take_add_one, hs]; simp
        have hwhole : all.flatMap Gn = (all.take z.toNat).flatMap Gn ++ (Gn (t, a, b) ++ (all.drop z1.toNat).flatMap Gn) := by
          rw [← List.append_assoc, ← hnext, ← List.flatMap_append, List.take_append_drop]
        repeat refine AWp.seq ?_
        refine AWp.reg1 {} hT (fun A hA => by
            have f0 := ar_lt hA hz
            repeat (cbv; simp only [f0])
            cbv) (Nat.le_of_ble_eq_true rfl) ?_
        try dsimp only [AExit.then, AExit.block]
        repeat refine AWp.seq ?_
        refine AWp.cond (b := true) rfl (AWp.skip ?_)
        try dsimp only [AExit.then, AExit.block]
        repeat refine AWp.seq ?_
        refine AWp.block ?_
        repeat refine AWp.seq ?_
        refine AWp.reg1 {esc := [8]} hT (fun A hA => by
            have f0 := ar_get hA hLz
            have f1 := ar_le hA h0
            repeat (cbv; simp only [f0, f1])
            cbv) (Nat.le_of_ble_eq_true rfl) ?_
        try dsimp only [AExit.then, AExit.block]
        refine AWp.cut (fun σ' => nextOk x l (t, a, b) = true ∧ σ'.keep [0, 1, 2, 3, 4, 8, 26, 27, 28] = { env := [(0, .d (.list 3 L)), (1, .ptr 4 0), (2, .ptr 5 0), (3, .ptr 6 0), (4, .ptr 7 0), (8, .ptr 8 0), (26, .d (.list 3 LA)), (27, AI N), (28, AI z)], heap := heapC3 X (A1 s2) (A2 s2) (A3 s2) (B s2) LA ++ [.cells [AI t, AI a, AI b]], n := 62 }) ?_ ?_
        · have hnxt := hnx (t, a, b)
          by_cases hn0 : n = 0
          · rw [show decide (l.length = 0) = true from decide_eq_true (by omega)] at hnxt
            repeat refine AWp.seq ?_
            refine AWp.reg1D {} hT rfl (fun A hA => by
                have f0 := ar_len hA L n hn
                have f1 := ar_nlt hA (show ¬ 0 < n by omega)
                repeat (cbv; simp only [f0, f1])
                cbv) (by kernel_rfl) (Nat.le_of_ble_eq_true rfl) ?_
            try dsimp only [AExit.then, AExit.block]
            repeat refine AWp.seq ?_
            refine AWp.cond (b := false) rfl (AWp.skip ?_)
            try dsimp only [AExit.then, AExit.block]
            exact ⟨hnxt, by cbv⟩
          · obtain ⟨hl1, hl2⟩ := hlast (by omega)
            have hcc := hconf _ (hlt _ hl1) _ (hall _ hmem)
            rw [show decide (l.length = 0) = false from decide_eq_false (by omega), Bool.false_or] at hnxt
            obtain ⟨⟨t', a', b'⟩, hlst⟩ : ∃ s, lastOf l = s := ⟨_, rfl⟩
            rw [hlst] at hl2 hcc hnxt
            dsimp only at hcc hnxt
            obtain ⟨r, hr'⟩ : ∃ r, conflict x t' b' t a = r := ⟨_, rfl⟩
            rw [hr'] at hcc hnxt
            obtain ⟨n1, hn1⟩ : ∃ n1, n - 1 = n1 := ⟨_, rfl⟩
            have hLl : L[n1.toNat]? = some (.agg [I t', I a', I b']) := by rw [← hL, List.getElem?_map, show n1.toNat = l.length - 1 by omega, hl2]; rfl
            repeat refine AWp.seq ?_
            refine AWp.regionDraw rfl (Nat.le_of_ble_eq_true rfl) ?_
            refine DOps.stepCall hT (an := {}) rfl (fun A hA => by
                have f0 := ar_len hA L n hn
                have f1 := ar_lt hA (show 0 < n by omega)
                have f2 := ar_sub hA n 1 n1 hn1 (by omega) (by omega)
                have f3 := ar_get hA hLl
                have f4 := ar_le hA (show 0 ≤ n1 by omega)
                repeat (cbv; simp only [f0, f1, f2, f3, f4])
                cbv) rfl rfl (Nat.le_of_ble_eq_true rfl) rfl rfl (out_ok t' a' b') ?_
            refine DOps.stepCall hT (an := {}) rfl (fun A hA => by cbv) rfl rfl (Nat.le_of_ble_eq_true rfl) rfl rfl (in_ok t a b) ?_
            refine DOps.stepCall hT (an := {}) rfl (fun A hA => by cbv) rfl rfl (Nat.le_of_ble_eq_true rfl) rfl rfl (hcc) ?_
            cases r with
            | true =>
              refine DOps.done hT (an := {}) rfl (fun A hA => by cbv) (by kernel_rfl) ?_
              try dsimp only [AExit.then, AExit.block]
              repeat refine AWp.seq ?_
              refine AWp.cond (b := false) rfl (AWp.skip ?_)
              try dsimp only [AExit.then, AExit.block]
              exact ⟨hnxt, by cbv⟩
            | false =>
              refine DOps.done hT (an := {}) rfl (fun A hA => by cbv) (by kernel_rfl) ?_
              try dsimp only [AExit.then, AExit.block]
              repeat refine AWp.seq ?_
              refine AWp.cond (b := true) rfl ?_
              rw [if_pos rfl]
              refine AWp.exit ?_
              dsimp only [AExit.then, AExit.block]
              rw [if_pos rfl]
              have hGt : Gn (t, a, b) = [] := by rw [hG, hnxt]; rfl
              repeat refine AWp.seq ?_
              refine AWp.reg1 {} hT (fun A hA => by
                  have f0 := ar_add hA z 1 z1 hz1 (by omega) (by omega)
                  repeat (cbv; simp only [f0])
                  cbv) (Nat.le_of_ble_eq_true rfl) ?_
              try dsimp only [AExit.then, AExit.block]
              exact ⟨by exact hin s2, (z1, s2), ⟨by dsimp only; omega, by dsimp only; omega, by dsimp only; rw [hnext, hGt, List.append_nil]; exact hr⟩, by dsimp only; omega, by cbv⟩
        · rintro σ2 ⟨hok, hσ2⟩
          refine AWp.keep [0, 1, 2, 3, 4, 8, 26, 27, 28] ?_
          rw [hσ2]
          unfold heapC3
          have hGt := hG (t, a, b)
          rw [hok, if_pos rfl] at hGt
          have hcall := ih' s2 (t, a, b) (runY_live hlive _ _ _ (runY_live hlive _ _ _ hs0 (hres.trans hs1)) hr) hmem
          rw [← hGt] at hcall
          obtain ⟨⟨s3, b3⟩, h3⟩ : ∃ p, runY step s2 (Gn (t, a, b)) = p := ⟨_, rfl⟩
          rw [h3] at hcall
          unfold dSta at hcall
          dsimp only at hcall
          obtain ⟨L3, hL3⟩ : ∃ L3, L ++ [.agg [I t, I a, I b]] = L3 := ⟨_, rfl⟩
          rw [hL3] at hcall
          have hsub : ∀ A : Ar, A = Ar.std → A.sub L 0 n = L := fun A hA => by subst hA; show (L.drop (0 : Int).toNat).take (n.toNat - (0 : Int).toNat) = L; exact List.take_of_length_le (by simp; omega)
          have hr2 : runY step s1 ((all.take z1.toNat).flatMap Gn) = (s3, b3) := by rw [hnext, runY_append, hr]; exact h3
          repeat refine AWp.seq ?_
          refine AWp.regionDraw rfl (Nat.le_of_ble_eq_true rfl) ?_
          refine DOps.stepCallH hT (an := {}) rfl (fun A' hA => by
              have f0 := ar_len hA L n hn
              have f1 := hsub A' hA
              have f2 := ar_le hA (Int.le_refl 0)
              have f3 := ar_le hA (show 0 ≤ n by omega)
              have f4 := ar_le hA (Int.le_refl n)
              have f5 := ar_eq hA (show n = n from rfl)
              have f6 := ar_app hA _ _ _ hL3
              have f7 := ar_fits' hA n [.agg [I t, I a, I b]] (by simp; omega)
              repeat (cbv; simp only [f0, f1, f2, f3, f4, f5, f6, f7])
              cbv) (H := [A1 s2, A2 s2, A3 s2, B s2, .cells [.d X], .cells [.yield 3], .cells [.d (.list 3 LA)], .cells [.func 110 [] [.ptr 4 0, .ptr 5 0, .ptr 6 0, .ptr 7 0]]])
              (H' := [A1 s3, A2 s3, A3 s3, B s3, .cells [.d X], .cells [.yield 3], .cells [.d (.list 3 LA)], .cells [.func 110 [] [.ptr 4 0, .ptr 5 0, .ptr 6 0, .ptr 7 0]]]) rfl (.inr rfl) (hin s2) rfl rfl (Nat.le_of_ble_eq_true rfl) rfl rfl hcall ?_
          refine DOps.done hT (an := {}) rfl (fun A hA => by cbv) (by kernel_rfl) ?_
          try dsimp only [AExit.then, AExit.block]
          cases b3 with
          | true =>
            repeat refine AWp.seq ?_
            refine AWp.cond (b := false) rfl (AWp.skip ?_)
            try dsimp only [AExit.then, AExit.block]
            repeat refine AWp.seq ?_
            refine AWp.reg1 {} hT (fun A hA => by
                have f0 := ar_add hA z 1 z1 hz1 (by omega) (by omega)
                repeat (cbv; simp only [f0])
                cbv) (Nat.le_of_ble_eq_true rfl) ?_
            try dsimp only [AExit.then, AExit.block]
            exact ⟨by exact hin s3, (z1, s3), ⟨by dsimp only; omega, by dsimp only; omega, hr2⟩, by dsimp only; omega, by cbv⟩
          | false =>
            repeat refine AWp.seq ?_
            refine AWp.cond (b := true) rfl ?_
            rw [if_pos rfl]
            repeat refine AWp.seq ?_
            refine AWp.reg1 {} hT (fun A hA => by cbv) (Nat.le_of_ble_eq_true rfl) ?_
            try dsimp only [AExit.then, AExit.block]
            have : (fs, fb) = (s3, false) := by rw [← hfin, hwhole, ← List.append_assoc, ← hnext, runY_append, hr2]; rfl
            injection this with e1 e2; subst e1 e2
            refine AWp.ret ⟨rfl, rfl, hin _, Nat.le_refl _, _, rfl⟩
      · repeat refine AWp.seq ?_
        refine AWp.reg1 {} hT (fun A hA => by
            have f0 := ar_nlt hA hz
            repeat (cbv; simp only [f0])
            cbv) (Nat.le_of_ble_eq_true rfl) ?_
        try dsimp only [AExit.then, AExit.block]
        repeat refine AWp.seq ?_
        refine AWp.cond (b := false) rfl (AWp.exit ?_)
        try dsimp only [AExit.then, AExit.block]
        rw [if_pos rfl]
        repeat refine AWp.seq ?_
        refine AWp.reg1 {} hT (fun A hA => by cbv) (Nat.le_of_ble_eq_true rfl) ?_
        try dsimp only [AExit.then, AExit.block]
        rw [List.take_of_length_le (by omega), hfin] at hr
        injection hr with e1 e2; subst e1 e2
        refine AWp.ret ⟨rfl, rfl, hin _, Nat.le_refl _, [], rfl⟩
theorem circles_ok3 {S : Type} (A1 A2 A3 B : S → Obj) (hAB : ∀ s m, 4 ≤ m → (A1 s).inb m = true ∧ (A2 s).inb m = true ∧ (A3 s).inb m = true ∧ (B s).inb m = true) (step : S → List Sta → S × Bool) (x : List (List Acc)) (hx : Small x)
    (live : S → Prop) (hlive : ∀ s l, live s → (step s l).2 = true → live (step s l).1) (hy : ∀ s l, live s → l.length ≤ 3 → YCall P 3 [.d (.list 3 (l.map dSta))] [A1 s, A2 s, A3 s, B s] (AB (step s l).2) [A1 (step s l).1, A2 (step s l).1, A3 (step s l).1, B (step s l).1]) (s : S) (hs0 : live s) :
    ACall P 61 [.d (dX x), .yield 3] [A1 s, A2 s, A3 s, B s] (.tuple []) [A1 (runY step s (circles x)).1, A2 (runY step s (circles x)).1, A3 (runY step s (circles x)).1, B (runY step s (circles x)).1] := by
  have cg := grow_ok3 A1 A2 A3 B hAB step x hx (stations x) (fun s hs => mem_stations hs) (Nat.le_trans (stations_length hx) (by omega)) live hlive hy 3 [] s hs0 rfl (by simp)
  have cs := stations_ok x hx
  have hin2 : ∀ s, objsInb [A1 s, A2 s, A3 s, B s].length [A1 s, A2 s, A3 s, B s] = true := fun s => by
    obtain ⟨h1, h2, h3, h4⟩ := hAB s 4 (by omega)
    show ((A1 s).inb 4 && ((A2 s).inb 4 && ((A3 s).inb 4 && ((B s).inb 4 && _)))) = true
    rw [h1, h2, h3, h4]; rfl
  have hin : ∀ X LA s, objsInb (heapC3 X (A1 s) (A2 s) (A3 s) (B s) LA).length (heapC3 X (A1 s) (A2 s) (A3 s) (B s) LA) = true := fun X LA s => by
    obtain ⟨h1, h2, h3, h4⟩ := hAB s 8 (by omega)
    show ((A1 s).inb 8 && ((A2 s).inb 8 && ((A3 s).inb 8 && ((B s).inb 8 && _)))) = true
    rw [h1, h2, h3, h4]; rfl
  unfold circles
  obtain ⟨X, hX⟩ : ∃ X, dX x = .list 1 X := ⟨_, rfl⟩
  obtain ⟨LA, hLA⟩ : ∃ L, (stations x).map dSta = L := ⟨_, rfl⟩
  obtain ⟨⟨fs, fb⟩, hfin⟩ : ∃ p, runY step s (circFrom x (stations x) 3 []) = p := ⟨_, rfl⟩
  rw [hX, hLA, hfin] at cg
  rw [hX, hLA] at cs
  rw [hX, hfin]
  refine ACall.enter hT (fn := Try.f61) Try.func61 rfl (by decide) (by simp [Try.f61]) rfl rfl rfl (hin2 _) (Nat.le_refl _) ?_
  unfold heapC3 at *
  repeat refine AWp.seq ?_
  refine AWp.reg1 {esc := [2, 3]} hT (fun A hA => by cbv) (Nat.le_of_ble_eq_true rfl) ?_
  try dsimp only [AExit.then, AExit.block]
  repeat refine AWp.seq ?_
  refine AWp.region ?_
  refine AOps.stepCall hT (an := {}) (fun A hA => by cbv) (Nat.le_of_ble_eq_true rfl) rfl (.inr rfl) rfl rfl rfl (Nat.le_of_ble_eq_true rfl) rfl rfl (cs) ?_
  refine AOps.done hT (an := {esc := [4]}) (fun A hA => by cbv) (Nat.le_of_ble_eq_true rfl) ?_
  try dsimp only [AExit.then, AExit.block]
  repeat refine AWp.seq ?_
  refine AWp.reg1 {esc := [5]} hT (fun A hA => by cbv) (Nat.le_of_ble_eq_true rfl) ?_
  try dsimp only [AExit.then, AExit.block]
  repeat refine AWp.seq ?_
  refine AWp.reg1 {} hT (fun A hA => by cbv) (Nat.le_of_ble_eq_true rfl) ?_
  try dsimp only [AExit.then, AExit.block]
  repeat refine AWp.seq ?_
  refine AWp.region ?_
  refine AOps.stepCallW hT (an := {}) (fun A hA => by cbv) (Nat.le_of_ble_eq_true rfl) (hin (.list 1 X) LA s) rfl rfl (Nat.le_of_ble_eq_true rfl) rfl rfl cg ?_
  refine AOps.done hT (an := {}) (fun A hA => by cbv) (Nat.le_of_ble_eq_true rfl) ?_
  try dsimp only [AExit.then, AExit.block]
  exact ⟨rfl, rfl, hin2 _, Nat.le_refl _, _, rfl⟩
end Go.Am

set_option maxRecDepth 100000
set_option linter.unusedVariables false
set_option linter.unusedSimpArgs false
namespace Go.Am
open Go Go.Proofs

def stO (o : Option (List Sta)) : LoopState := match o with | none => .ready | some _ => .done
def pdO (o : Option (List Sta)) : Option Code := match o with | none => none | some _ => some .ret
def laO (o : Option (List Sta)) : AV := match o with | none => .own 3 [] | some l => .d (.list 3 (l.map dSta))
/-- One circle: is the pair in it? -/
def circStep (p : Sta) (o : Option (List Sta)) (l : List Sta) : Option (List Sta) × Bool := if l.contains p then (some l, false) else (o, true)
theorem runY_circ (p : Sta) : ∀ (ls : List (List Sta)), (runY (circStep p) none ls).1 = ls.find? (·.contains p)
  | [] => rfl
  | l :: r => by
    unfold runY circStep
    rw [List.find?_cons]
    cases h : l.contains p with
    | true => rfl
    | false => exact runY_circ p r
/-- The answer of Circle. -/
def circT (x : List (List Acc)) (p : Sta) : List AV := if valid x then (if isPair x p then (match (circles x).find? (·.contains p) with | some l => [.d (.list 3 (l.map dSta)), AI 0] | none => [.d (.list 3 []), AI 5]) else [.d (.list 3 []), AI 2]) else [.d (.list 3 []), AI 90]

theorem Circle_ok (x : List (List Acc)) (p : Sta) (hx : Big x) : ACall P 33 [.d (dX x), .d (dSta p)] [] (.tuple (circT x p)) [] := by
  have cv := valid_ok x hx
  have hp : dSta p = .agg [I p.1, I p.2.1, I p.2.2] := rfl
  unfold circT
  cases hv : valid x with
  | false =>
    rw [hv] at cv
    obtain ⟨X, hX⟩ : ∃ X, dX x = X := ⟨_, rfl⟩
    rw [hX] at cv ⊢
    rw [hp]
    refine ACall.enterT hT (fn := Try.f33) Try.func33 rfl (by decide) (by simp [Try.f33]) rfl rfl rfl rfl (Nat.le_refl _) ?_
    refine AWpT.seq (AWpT.of ?_)
    repeat refine AWp.seq ?_
    refine AWp.reg1 {esc := [3, 4, 5]} hT (fun A hA => by cbv) (Nat.zero_le _) ?_
    try dsimp only [AExit.then, AExit.block]
    refine AWpT.seq (AWpT.of ?_)
    refine AWp.block ?_
    repeat refine AWp.seq ?_
    refine AWp.region ?_
    refine AOps.stepCall hT (an := {}) (fun A hA => by cbv) (Nat.zero_le _) rfl (.inr rfl) rfl rfl rfl (Nat.le_of_ble_eq_true rfl) rfl rfl (cv) ?_
    refine AOps.done hT (an := {}) (fun A hA => by cbv) (Nat.zero_le _) ?_
    try dsimp only [AExit.then, AExit.block]
    repeat refine AWp.seq ?_
    refine AWp.cond (b := true) rfl ?_
    rw [if_pos rfl]
    repeat refine AWp.seq ?_
    refine AWp.reg1 {} hT (fun A hA => by cbv) (Nat.zero_le _) ?_
    try dsimp only [AExit.then, AExit.block]
    repeat refine AWp.seq ?_
    refine AWp.ret ⟨?_, rfl, rfl, Nat.zero_le _, _, rfl⟩
    rfl
  | true =>
    have hs := valid_small hv
    rw [hv] at cv
    have cpr := isPair_ok x p hs
    rw [if_pos rfl]
    cases hpr : isPair x p with
    | false =>
      rw [hpr] at cpr
      obtain ⟨X, hX⟩ : ∃ X, dX x = X := ⟨_, rfl⟩
      rw [hX] at cv cpr ⊢
      rw [hp] at cpr ⊢
      refine ACall.enterT hT (fn := Try.f33) Try.func33 rfl (by decide) (by simp [Try.f33]) rfl rfl rfl rfl (Nat.le_refl _) ?_
      refine AWpT.seq (AWpT.of ?_)
      repeat refine AWp.seq ?_
      refine AWp.reg1 {esc := [3, 4, 5]} hT (fun A hA => by cbv) (Nat.zero_le _) ?_
      try dsimp only [AExit.then, AExit.block]
      refine AWpT.seq (AWpT.of ?_)
      refine AWp.block ?_
      repeat refine AWp.seq ?_
      refine AWp.region ?_
      refine AOps.stepCall hT (an := {}) (fun A hA => by cbv) (Nat.zero_le _) rfl (.inr rfl) rfl rfl rfl (Nat.le_of_ble_eq_true rfl) rfl rfl (cv) ?_
      refine AOps.done hT (an := {}) (fun A hA => by cbv) (Nat.zero_le _) ?_
      try dsimp only [AExit.then, AExit.block]
      refine AWp.cond (b := false) rfl ?_
      rw [if_neg Bool.false_ne_true]
      repeat refine AWp.seq ?_
      refine AWp.region ?_
      refine AOps.stepCall hT (an := {}) (fun A hA => by cbv) (Nat.zero_le _) rfl (.inr rfl) rfl rfl rfl (Nat.le_of_ble_eq_true rfl) rfl rfl (cpr) ?_
      refine AOps.done hT (an := {}) (fun A hA => by cbv) (Nat.zero_le _) ?_
      try dsimp only [AExit.then, AExit.block]
      repeat refine AWp.seq ?_
      refine AWp.cond (b := true) rfl ?_
      rw [if_pos rfl]
      repeat refine AWp.seq ?_
      refine AWp.reg1 {} hT (fun A hA => by cbv) (Nat.zero_le _) ?_
      try dsimp only [AExit.then, AExit.block]
      repeat refine AWp.seq ?_
      refine AWp.ret ⟨?_, rfl, rfl, Nat.zero_le _, _, rfl⟩
      rfl
    | true =>
      rw [hpr] at cpr
      rw [if_pos rfl]
      have hfin := runY_circ p (circles x)
      obtain ⟨fin, hfin'⟩ : ∃ o, (circles x).find? (·.contains p) = o := ⟨_, rfl⟩
      rw [hfin'] at hfin ⊢
      have hcont := fun l hl => contains_sta_ok l p hl
      have ccs := fun (A1 A2 A3 B : Option (List Sta) → Obj) hAB hy => circles_ok3 A1 A2 A3 B hAB (circStep p) x hs (fun o => o = none) (fun s l h1 h2 => by
        unfold circStep at h2 ⊢
        split at h2
        · cases h2
        · rename_i hn; rw [if_neg hn]; exact h1) hy none rfl
      simp only [hfin] at ccs
      obtain ⟨X, hX⟩ : ∃ X, dX x = X := ⟨_, rfl⟩
      rw [hX] at cv cpr ⊢
      rw [hp] at cpr ⊢
      simp only [hX] at ccs
      simp only [hp] at hcont
      refine ACall.enterT hT (fn := Try.f33) Try.func33 rfl (by decide) (by simp [Try.f33]) rfl rfl (by cases fin <;> rfl) rfl (Nat.le_refl _) ?_
      refine AWpT.seq (AWpT.of ?_)
      repeat refine AWp.seq ?_
      refine AWp.reg1 {esc := [3, 4, 5]} hT (fun A hA => by cbv) (Nat.zero_le _) ?_
      try dsimp only [AExit.then, AExit.block]
      refine AWpT.seq (AWpT.of ?_)
      refine AWp.block ?_
      repeat refine AWp.seq ?_
      refine AWp.region ?_
      refine AOps.stepCall hT (an := {}) (fun A hA => by cbv) (Nat.zero_le _) rfl (.inr rfl) rfl rfl rfl (Nat.le_of_ble_eq_true rfl) rfl rfl (cv) ?_
      refine AOps.done hT (an := {}) (fun A hA => by cbv) (Nat.zero_le _) ?_
      try dsimp only [AExit.then, AExit.block]
      refine AWp.cond (b := false) rfl ?_
      rw [if_neg Bool.false_ne_true]
      repeat refine AWp.seq ?_
      refine AWp.region ?_
      refine AOps.stepCall hT (an := {}) (fun A hA => by cbv) (Nat.zero_le _) rfl (.inr rfl) rfl rfl rfl (Nat.le_of_ble_eq_true rfl) rfl rfl (cpr) ?_
      refine AOps.done hT (an := {}) (fun A hA => by cbv) (Nat.zero_le _) ?_
      try dsimp only [AExit.then, AExit.block]
      repeat refine AWp.seq ?_
      refine AWp.cond (b := false) rfl (AWp.skip ?_)
      try dsimp only [AExit.then, AExit.block]
      refine AWpT.seq (AWpT.seq (AWpT.of ?_))
      repeat refine AWp.seq ?_
      refine AWp.reg1 {} hT (fun A hA => by cbv) (Nat.zero_le _) ?_
      try dsimp only [AExit.then, AExit.block]
      refine AWpT.block ?_
      refine AWpT.rangeFunc (st := stO fin) (pend := pdO fin) [3, 4, 5] rfl (Nat.zero_le _) ?_ ?_ ?_ (ccs (fun _ => .cells [AI p.1, AI p.2.1, AI p.2.2]) (fun o => .cells [laO o]) (fun _ => .cells [AI 0]) (fun o => .loop { st := stO o, pending := pdO o, env := _, n := _, params := _, assign := _, body := _ }) ?_ ?_) ?_ ?_ ?_
      · rfl
      · rfl
      · rfl
      · intro s k hk
        refine ⟨rfl, by cases s <;> rfl, rfl, ?_⟩
        show (decide (0 < k) && (decide (1 < k) && (decide (2 < k) && true))) = true
        simp; omega
      · rintro o l rfl hl
        unfold circStep
        have hcl := hcont l (by omega)
        obtain ⟨b, hb⟩ : ∃ b, l.contains p = b := ⟨_, rfl⟩
        have hpl := plain_ok l (by omega)
        rw [hb] at hcl ⊢
        obtain ⟨L, hL⟩ : ∃ L, l.map dSta = L := ⟨_, rfl⟩
        rw [hL] at hcl hpl ⊢
        cases b with
        | false =>
          refine YCall.mk (y := 3) rfl rfl rfl rfl rfl rfl (Nat.le_refl _) ?_
          repeat refine AWp.seq ?_
          refine AWp.reg1 {} hT (fun A hA => by cbv) (Nat.le_of_ble_eq_true rfl) ?_
          try dsimp only [AExit.then, AExit.block]
          refine ⟨rfl, rfl, ?_⟩
          repeat refine AWp.seq ?_
          refine AWp.block ?_
          repeat refine AWp.seq ?_
          refine AWp.region ?_
          refine AOps.stepCall hT (an := {}) (fun A hA => by cbv) (Nat.le_of_ble_eq_true rfl) rfl (.inr rfl) rfl rfl rfl (Nat.le_of_ble_eq_true rfl) rfl rfl (hcl) ?_
          refine AOps.done hT (an := {}) (fun A hA => by cbv) (Nat.le_of_ble_eq_true rfl) ?_
          try dsimp only [AExit.then, AExit.block]
          repeat refine AWp.seq ?_
          refine AWp.cond (b := false) rfl (AWp.skip ?_)
          try dsimp only [AExit.then, AExit.block]
          exact ⟨rfl, rfl, [], rfl⟩
        | true =>
          refine YCall.mk (y := 3) rfl rfl rfl rfl rfl rfl (Nat.le_refl _) ?_
          repeat refine AWp.seq ?_
          refine AWp.reg1 {} hT (fun A hA => by cbv) (Nat.le_of_ble_eq_true rfl) ?_
          try dsimp only [AExit.then, AExit.block]
          refine ⟨rfl, rfl, ?_⟩
          repeat refine AWp.seq ?_
          refine AWp.block ?_
          repeat refine AWp.seq ?_
          refine AWp.region ?_
          refine AOps.stepCall hT (an := {}) (fun A hA => by cbv) (Nat.le_of_ble_eq_true rfl) rfl (.inr rfl) rfl rfl rfl (Nat.le_of_ble_eq_true rfl) rfl rfl (hcl) ?_
          refine AOps.done hT (an := {}) (fun A hA => by cbv) (Nat.le_of_ble_eq_true rfl) ?_
          try dsimp only [AExit.then, AExit.block]
          repeat refine AWp.seq ?_
          refine AWp.cond (b := true) rfl ?_
          rw [if_pos rfl]
          repeat refine AWp.seq ?_
          refine AWp.region ?_
          refine AOps.stepCall hT (an := {}) (fun A hA => by cbv) (Nat.le_of_ble_eq_true rfl) rfl (.inr rfl) rfl rfl rfl (Nat.le_of_ble_eq_true rfl) rfl rfl (hpl) ?_
          refine AOps.done hT (an := {}) (fun A hA => by cbv) (Nat.le_of_ble_eq_true rfl) ?_
          try dsimp only [AExit.then, AExit.block]
          refine AWp.ret ?_
          refine ⟨rfl, rfl, [], ?_⟩
          show _ = [_, Obj.cells [.d (.list 3 (l.map dSta))], _, _]
          rw [hL]
          rfl
      · cases fin <;> simp [stO]
      · rfl
      · 
        cases fin with
        | none =>
          dsimp only [AWpT.behind, AExit.then, AExit.block, pdO]
          refine AWpT.of ?_
          repeat refine AWp.seq ?_
          refine AWp.reg1 {} hT (fun A hA => by cbv) (Nat.zero_le _) ?_
          try dsimp only [AExit.then, AExit.block]
          repeat refine AWp.seq ?_
          refine AWp.ret ⟨?_, rfl, rfl, Nat.zero_le _, _, rfl⟩
          rfl
        | some l =>
          dsimp only [AWpT.behind, AExit.then, AExit.block, pdO, laO]
          refine AWpT.of ?_
          repeat refine AWp.seq ?_
          refine AWp.ret ⟨?_, rfl, rfl, Nat.zero_le _, _, rfl⟩
          rfl
end Go.Am
