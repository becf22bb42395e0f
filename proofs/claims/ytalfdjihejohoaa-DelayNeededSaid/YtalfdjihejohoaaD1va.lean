/- Own text: D1va. -/
import Derived.Test.YtalfdjihejohoaaD1tb
import Derived.Test.YtalfdjihejohoaaD1te
set_option maxRecDepth 100000
set_option linter.unusedVariables false
set_option linter.unusedSimpArgs false
namespace Go.Am
open Go Go.Proofs

theorem index118 (l : List Sta) (s : Sta) (hl : l.length ≤ 9223372036854775807) : ∃ r : Int, decide (0 ≤ r) = l.contains s ∧ ACall P 118 [.d (.list 3 (l.map dSta)), .d (dSta s)] [] (AI r) [] := by
  refine ⟨match l.findIdx? (fun u => decide (s = u)) with | some i => (i : Int) | none => -1, ?_, ?_⟩
  · cases h : l.findIdx? (fun u => decide (s = u)) with
    | none =>
      rw [List.findIdx?_eq_none_iff] at h
      have : l.contains s = false := by
        rw [List.contains_eq_mem, decide_eq_false_iff_not]
        intro hm
        have := h s hm
        simp at this
      rw [this]; rfl
    | some i =>
      obtain ⟨h1, h2, _⟩ := List.findIdx?_eq_some_iff_getElem.1 h
      have : l.contains s = true := by
        rw [List.contains_eq_mem, decide_eq_true_eq, of_decide_eq_true h2]
        exact List.getElem_mem h1
      rw [this]; simp
  obtain ⟨X, hX⟩ : ∃ X, l.map dSta = X := ⟨_, rfl⟩
  obtain ⟨n, hn⟩ : ∃ n : Int, (X.length : Int) = n := ⟨_, rfl⟩
  have hln : (l.length : Int) = n := by rw [← hn, ← hX]; simp
  obtain ⟨a, b, c⟩ := s
  unfold dSta
  dsimp only
  have hfun : (fun s => D.agg [I s.1, I s.2.1, I s.2.2]) = dSta := rfl
  rw [hfun, hX]
  refine ACall.enter hT (fn := Try.f118) Try.func118 rfl (by decide) (by simp [Try.f118]) rfl rfl rfl rfl (Nat.le_refl _) ?_
  repeat refine AWp.seq ?_
  refine AWp.reg1 {} hT (fun A hA => by cbv) (Nat.zero_le _) ?_
  try dsimp only [AExit.then, AExit.block]
  repeat refine AWp.seq ?_
  refine AWp.reg1 {} hT (fun A hA => by
      have f0 := ar_len hA X n hn
      repeat (cbv; simp only [f0])
      cbv) (Nat.zero_le _) ?_
  try dsimp only [AExit.then, AExit.block]
  refine AWp.block (AWp.loopInv (ι := Int) (fun z => 0 ≤ z ∧ z ≤ n ∧ ∀ u ∈ l.take z.toNat, decide ((a, b, c) = u) = false) (fun z => (n - z).toNat) [0, 3, 7, 8]
    (fun z => { env := [(0, .d (.list 3 X)), (3, .lbox [AI a, AI b, AI c]), (7, AI n), (8, AI z)], heap := [], n := 19 }) 0 (by cbv) ⟨Int.le_refl _, by omega, by simp⟩ ?_)
  rintro z ⟨h0, h1, h2⟩
  by_cases hz : z < n
  · obtain ⟨z1, hz1⟩ : ∃ z1, z + 1 = z1 := ⟨_, rfl⟩
    obtain ⟨⟨a', b', c'⟩, hs⟩ : ∃ s, l[z.toNat]? = some s := ⟨_, List.getElem?_eq_getElem (by omega)⟩
    have hXs : X[z.toNat]? = some (.agg [I a', I b', I c']) := by rw [← hX, List.getElem?_map, hs]; rfl
    obtain ⟨r, hr⟩ : ∃ r, decide ((a, b, c) = (a', b', c')) = r := ⟨_, rfl⟩
    have hdeq : ∀ A : Ar, A = Ar.std → A.deq [I a, I b, I c] [I a', I b', I c'] = r := fun A hA => ar_deq hA (by rw [← hr]; simp)
    repeat refine AWp.seq ?_
    refine AWp.reg1 {} hT (fun A hA => by
        have f0 := ar_lt hA hz
        repeat (cbv; simp only [f0])
        cbv) (Nat.zero_le _) ?_
    try dsimp only [AExit.then, AExit.block]
    repeat refine AWp.seq ?_
    refine AWp.cond (b := true) rfl (AWp.skip ?_)
    try dsimp only [AExit.then, AExit.block]
    repeat refine AWp.seq ?_
    refine AWp.block ?_
    repeat refine AWp.seq ?_
    refine AWp.reg1 {} hT (fun A hA => by cbv) (Nat.zero_le _) ?_
    try dsimp only [AExit.then, AExit.block]
    cases r with
    | true =>
      repeat refine AWp.seq ?_
      refine AWp.reg1D {} hT rfl (fun A hA => by
          have f0 := ar_get hA hXs
          have f1 := ar_le hA h0
          have f2 := hdeq A hA
          repeat (cbv; simp only [f0, f1, f2])
          cbv) (by kernel_rfl) (Nat.zero_le _) ?_
      try dsimp only [AExit.then, AExit.block]
      repeat refine AWp.seq ?_
      refine AWp.cond (b := true) rfl ?_
      rw [if_pos rfl]
      repeat refine AWp.seq ?_
      refine AWp.reg1 {} hT (fun A hA => by cbv) (Nat.zero_le _) ?_
      try dsimp only [AExit.then, AExit.block]
      repeat refine AWp.seq ?_
      refine AWp.ret ⟨?_, rfl, rfl, Nat.zero_le _, _, rfl⟩
      have : l.findIdx? (fun u => decide ((a, b, c) = u)) = some z.toNat := by
        rw [List.findIdx?_eq_some_iff_getElem]
        refine ⟨by omega, ?_, fun j hj => ?_⟩
        · rw [List.getElem?_eq_getElem (by omega)] at hs; injection hs with hs; rw [hs]; exact hr
        · have := h2 l[j] (by rw [List.mem_take_iff_getElem]; exact ⟨j, by omega, rfl⟩)
          rw [this]; decide
      rw [this]
      show _ = some (AI (z.toNat : Int))
      rw [show (z.toNat : Int) = z by omega]
      rfl
    | false =>
      repeat refine AWp.seq ?_
      refine AWp.reg1D {} hT rfl (fun A hA => by
          have f0 := ar_get hA hXs
          have f1 := ar_le hA h0
          have f2 := hdeq A hA
          repeat (cbv; simp only [f0, f1, f2])
          cbv) (by kernel_rfl) (Nat.zero_le _) ?_
      try dsimp only [AExit.then, AExit.block]
      repeat refine AWp.seq ?_
      refine AWp.cond (b := false) rfl (AWp.skip ?_)
      try dsimp only [AExit.then, AExit.block]
      repeat refine AWp.seq ?_
      refine AWp.reg1 {} hT (fun A hA => by
          have f0 := ar_add hA z 1 z1 hz1 (by omega) (by omega)
          repeat (cbv; simp only [f0])
          cbv) (Nat.zero_le _) ?_
      try dsimp only [AExit.then, AExit.block]
      refine ⟨z1, ⟨by omega, by omega, ?_⟩, by omega, by cbv⟩
      intro u hu
      rw [show z1.toNat = z.toNat + 1 by omega, List.take_add_one, hs] at hu
      simp only [Option.toList_some, List.mem_append, List.mem_singleton] at hu
      rcases hu with hu | rfl
      · exact h2 u hu
      · exact hr
  · repeat refine AWp.seq ?_
    refine AWp.reg1 {} hT (fun A hA => by
        have f0 := ar_nlt hA hz
        repeat (cbv; simp only [f0])
        cbv) (Nat.zero_le _) ?_
    try dsimp only [AExit.then, AExit.block]
    repeat refine AWp.seq ?_
    refine AWp.cond (b := false) rfl (AWp.exit ?_)
    try dsimp only [AExit.then, AExit.block]
    rw [if_pos rfl]
    repeat refine AWp.seq ?_
    refine AWp.reg1 {} hT (fun A hA => by cbv) (Nat.zero_le _) ?_
    try dsimp only [AExit.then, AExit.block]
    repeat refine AWp.seq ?_
    refine AWp.ret ⟨?_, rfl, rfl, Nat.zero_le _, _, rfl⟩
    have : l.findIdx? (fun u => decide ((a, b, c) = u)) = none := by
      rw [List.findIdx?_eq_none_iff]
      intro y hy
      exact h2 y (by rw [List.take_of_length_le (by omega)]; exact hy)
    rw [this]
    rfl

theorem contains_sta_ok (l : List Sta) (s : Sta) (hl : l.length ≤ 9223372036854775807) : ACall P 79 [.d (.list 3 (l.map dSta)), .d (dSta s)] [] (AB (l.contains s)) [] := by
  obtain ⟨r, hr, hc⟩ := index118 l s hl
  obtain ⟨b, hb⟩ : ∃ b, l.contains s = b := ⟨_, rfl⟩
  rw [hb] at hr ⊢
  obtain ⟨X, hX⟩ : ∃ X, l.map dSta = X := ⟨_, rfl⟩
  rw [hX] at hc ⊢
  obtain ⟨a, b', c⟩ := s
  unfold dSta at *
  dsimp only at *
  have hrb : ∀ A : Ar, A = Ar.std → A.zle 0 r = b := fun A hA => by subst hA; exact hr
  refine ACall.enter hT (fn := Try.f79) Try.func79 rfl (by decide) (by simp [Try.f79]) rfl rfl rfl rfl (Nat.le_refl _) ?_
  repeat refine AWp.seq ?_
  refine AWp.reg1 {} hT (fun A hA => by cbv) (Nat.zero_le _) ?_
  try dsimp only [AExit.then, AExit.block]
  repeat refine AWp.seq ?_
  refine AWp.region ?_
  refine AOps.stepCall hT (an := {}) (fun A hA => by cbv) (Nat.zero_le _) rfl (.inr rfl) rfl rfl rfl (Nat.le_of_ble_eq_true rfl) rfl rfl (hc) ?_
  refine AOps.done hT (an := {}) (fun A hA => by
      have f0 := hrb A hA
      repeat (cbv; simp only [f0])
      cbv) (Nat.zero_le _) ?_
  try dsimp only [AExit.then, AExit.block]
  repeat refine AWp.seq ?_
  refine AWp.ret ⟨?_, rfl, rfl, Nat.zero_le _, _, rfl⟩
  rfl

/-- Whether a list that is given is a circle. -/
def isCircF (x : List (List Acc)) (c : List Sta) : Bool := decide (2 ≤ c.length) && decide (c.length ≤ 3) && c.all (fun s => (stations x).contains s) && isCircle x c

theorem IsCircle_ok (x : List (List Acc)) (c : List Sta) (hx : Big x) (hc : c.length ≤ 9223372036854775807) : ACall P 29 [.d (dX x), .d (.list 3 (c.map dSta))] [] (.tuple (if valid x then [AB (isCircF x c), AI 0] else [AB false, AI 90])) [] := by
  have cv := valid_ok x hx
  cases hv : valid x with
  | false =>
    rw [hv] at cv
    obtain ⟨X, hX⟩ : ∃ X, dX x = X := ⟨_, rfl⟩
    obtain ⟨C, hC⟩ : ∃ C, c.map dSta = C := ⟨_, rfl⟩
    rw [hX] at cv ⊢
    rw [hC]
    refine ACall.enter hT (fn := Try.f29) Try.func29 rfl (by decide) (by simp [Try.f29]) rfl rfl rfl rfl (Nat.le_refl _) ?_
    repeat refine AWp.seq ?_
    refine AWp.reg1 {} hT (fun A hA => by cbv) (Nat.zero_le _) ?_
    try dsimp only [AExit.then, AExit.block]
    repeat refine AWp.seq ?_
    refine AWp.region ?_
    refine AOps.stepCall hT (an := {}) (fun A hA => by cbv) (Nat.zero_le _) rfl (.inr rfl) rfl rfl rfl (Nat.le_of_ble_eq_true rfl) rfl rfl (cv) ?_
    refine AOps.done hT (an := {}) (fun A hA => by cbv) (Nat.zero_le _) ?_
    try dsimp only [AExit.then, AExit.block]
    repeat refine AWp.seq ?_
    refine AWp.cond (b := true) rfl ?_
    rw [if_pos rfl]
    repeat refine AWp.seq ?_
    refine AWp.reg1 {} hT (fun A hA => by cbv) (Nat.zero_le _) ?_
    try dsimp only [AExit.then, AExit.block]
    repeat refine AWp.seq ?_
    refine AWp.ret ⟨?_, rfl, rfl, Nat.zero_le _, _, rfl⟩
    rfl
  | true =>
    have hs := valid_small hv
    rw [hv] at cv
    rw [if_pos rfl]
    have cst := stations_ok x hs
    have hst : ∀ s, s ∈ stations x → isThere x s = true := fun s h => mem_stations h
    have h48 := stations_48 hv
    have ccn := fun s => contains_sta_ok (stations x) s (by omega)
    have cci := fun (h1 : c.length ≤ 1000000) h2 => isCircle_ok x hs c h1 h2
    obtain ⟨F, hF⟩ : ∃ F, isCircF x c = F := ⟨_, rfl⟩
    rw [hF]
    unfold isCircF at hF
    obtain ⟨st, hst'⟩ : ∃ st, stations x = st := ⟨_, rfl⟩
    rw [hst'] at cst ccn hF h48
    simp only [hst'] at hst
    obtain ⟨X, hX⟩ : ∃ X, dX x = X := ⟨_, rfl⟩
    obtain ⟨C, hC⟩ : ∃ C, c.map dSta = C := ⟨_, rfl⟩
    obtain ⟨S, hS⟩ : ∃ C, st.map dSta = C := ⟨_, rfl⟩
    obtain ⟨n, hn⟩ : ∃ n : Int, (C.length : Int) = n := ⟨_, rfl⟩
    have hcn : (c.length : Int) = n := by rw [← hn, ← hC]; simp
    rw [hX] at cv cst cci ⊢
    rw [hS] at cst
    simp only [hS] at ccn
    rw [hC] at cci ⊢
    have cb := between_ok 2 n 3
    refine ACall.enter hT (fn := Try.f29) Try.func29 rfl (by decide) (by simp [Try.f29]) rfl rfl rfl rfl (Nat.le_refl _) ?_
    repeat refine AWp.seq ?_
    refine AWp.reg1 {} hT (fun A hA => by cbv) (Nat.zero_le _) ?_
    try dsimp only [AExit.then, AExit.block]
    repeat refine AWp.seq ?_
    refine AWp.region ?_
    refine AOps.stepCall hT (an := {}) (fun A hA => by cbv) (Nat.zero_le _) rfl (.inr rfl) rfl rfl rfl (Nat.le_of_ble_eq_true rfl) rfl rfl (cv) ?_
    refine AOps.done hT (an := {}) (fun A hA => by cbv) (Nat.zero_le _) ?_
    try dsimp only [AExit.then, AExit.block]
    repeat refine AWp.seq ?_
    refine AWp.cond (b := false) rfl (AWp.skip ?_)
    try dsimp only [AExit.then, AExit.block]
    by_cases h23 : 2 ≤ n ∧ n ≤ 3
    · rw [show (decide (2 ≤ n) && decide (n ≤ 3)) = true by simp [h23.1, h23.2]] at cb
      rw [show decide (2 ≤ c.length) = true by simp; omega, show decide (c.length ≤ 3) = true by simp; omega] at hF
      repeat refine AWp.seq ?_
      refine AWp.region ?_
      refine AOps.stepCall hT (an := {}) (fun A hA => by
          have f0 := ar_len hA C n hn
          repeat (cbv; simp only [f0])
          cbv) (Nat.zero_le _) rfl (.inr rfl) rfl rfl rfl (Nat.le_of_ble_eq_true rfl) rfl rfl (cb) ?_
      refine AOps.done hT (an := {}) (fun A hA => by cbv) (Nat.zero_le _) ?_
      try dsimp only [AExit.then, AExit.block]
      repeat refine AWp.seq ?_
      refine AWp.cond (b := false) rfl (AWp.skip ?_)
      try dsimp only [AExit.then, AExit.block]
      repeat refine AWp.seq ?_
      refine AWp.region ?_
      refine AOps.stepCall hT (an := {}) (fun A hA => by cbv) (Nat.zero_le _) rfl (.inr rfl) rfl rfl rfl (Nat.le_of_ble_eq_true rfl) rfl rfl (cst) ?_
      refine AOps.done hT (an := {}) (fun A hA => by cbv) (Nat.zero_le _) ?_
      try dsimp only [AExit.then, AExit.block]
      repeat refine AWp.seq ?_
      refine AWp.reg1 {tk := [7]} hT (fun A hA => by cbv) (Nat.zero_le _) ?_
      try dsimp only [AExit.then, AExit.block]
      repeat refine AWp.seq ?_
      refine AWp.reg1 {} hT (fun A hA => by
          have f0 := ar_len hA C n hn
          repeat (cbv; simp only [f0])
          cbv) (Nat.zero_le _) ?_
      try dsimp only [AExit.then, AExit.block]
      refine AWp.block (AWp.loopInv (ι := Int × List D) (fun p => 0 ≤ p.1 ∧ p.1 ≤ n ∧ p.2 = C.take p.1.toNat ∧ ∀ s ∈ c.take p.1.toNat, st.contains s = true) (fun p => (n - p.1).toNat) [0, 6, 7, 19, 20, 21]
        (fun p => { env := [(0, .d X), (6, .d (.list 3 S)), (7, .own 3 p.2), (19, .d (.list 3 C)), (20, AI n), (21, AI p.1)], heap := [], n := 37 }) (0, []) (by cbv) ⟨Int.le_refl _, by dsimp only; omega, by simp, by simp⟩ ?_)
      rintro ⟨z, L⟩ ⟨h0, h1, h2, h3⟩
      dsimp only at *
      by_cases hz : z < n
      · obtain ⟨z1, hz1⟩ : ∃ z1, z + 1 = z1 := ⟨_, rfl⟩
        obtain ⟨s, hs'⟩ : ∃ s, c[z.toNat]? = some s := ⟨_, List.getElem?_eq_getElem (by omega)⟩
        have hcs := ccn s
        obtain ⟨r, hr⟩ : ∃ r, st.contains s = r := ⟨_, rfl⟩
        rw [hr] at hcs
        have hCs : C[z.toNat]? = some (dSta s) := by rw [← hC, List.getElem?_map, hs']; rfl
        have hLl : L.length ≤ 3 := by rw [h2]; simp; omega
        have hno : r = false → F = false := fun h => by
          rw [← hF]
          have : c.all (fun s => st.contains s) = false := by
            rw [List.all_eq_false]
            exact ⟨s, List.mem_of_getElem? hs', by rw [hr, h]; decide⟩
          rw [this]; simp
        have htake : ∀ u ∈ c.take z1.toNat, r = true → st.contains u = true := fun u hu h => by
          rw [show z1.toNat = z.toNat + 1 by omega, List.take_add_one, hs'] at hu
          simp only [Option.toList_some, List.mem_append, List.mem_singleton] at hu
          rcases hu with hu | rfl
          · exact h3 u hu
          · rw [hr, h]
        have hCt : C.take z1.toNat = L ++ [dSta s] := by rw [show z1.toNat = z.toNat + 1 by omega, List.take_add_one, hCs, ← h2]; rfl
        obtain ⟨a, b, d⟩ := s
        unfold dSta at hcs hCs hCt
        dsimp only at hcs hCs hCt
        obtain ⟨L1, hL1⟩ : ∃ l3, L ++ [.agg [I a, I b, I d]] = l3 := ⟨_, rfl⟩
        repeat refine AWp.seq ?_
        refine AWp.reg1 {} hT (fun A hA => by
            have f0 := ar_lt hA hz
            repeat (cbv; simp only [f0])
            cbv) (Nat.zero_le _) ?_
        try dsimp only [AExit.then, AExit.block]
        repeat refine AWp.seq ?_
        refine AWp.cond (b := true) rfl (AWp.skip ?_)
        try dsimp only [AExit.then, AExit.block]
        repeat refine AWp.seq ?_
        refine AWp.block ?_
        repeat refine AWp.seq ?_
        refine AWp.reg1 {} hT (fun A hA => by
            have f0 := ar_get hA hCs
            have f1 := ar_le hA h0
            repeat (cbv; simp only [f0, f1])
            cbv) (Nat.zero_le _) ?_
        try dsimp only [AExit.then, AExit.block]
        repeat refine AWp.seq ?_
        refine AWp.region ?_
        refine AOps.stepCall hT (an := {}) (fun A hA => by cbv) (Nat.zero_le _) rfl (.inr rfl) rfl rfl rfl (Nat.le_of_ble_eq_true rfl) rfl rfl (hcs) ?_
        refine AOps.done hT (an := {}) (fun A hA => by cbv) (Nat.zero_le _) ?_
        try dsimp only [AExit.then, AExit.block]
        cases r with
        | false =>
          repeat refine AWp.seq ?_
          refine AWp.cond (b := true) rfl ?_
          rw [if_pos rfl]
          repeat refine AWp.seq ?_
          refine AWp.reg1 {} hT (fun A hA => by cbv) (Nat.zero_le _) ?_
          try dsimp only [AExit.then, AExit.block]
          repeat refine AWp.seq ?_
          refine AWp.ret ⟨?_, rfl, rfl, Nat.zero_le _, _, rfl⟩
          rw [hno rfl]; rfl
        | true =>
          repeat refine AWp.seq ?_
          refine AWp.cond (b := false) rfl (AWp.skip ?_)
          try dsimp only [AExit.then, AExit.block]
          repeat refine AWp.seq ?_
          refine AWp.reg1 {tk := [7, 29, 32]} hT (fun A hA => by
              have f0 := ar_app hA _ _ _ hL1
              have f1 := ar_fits hA L [.agg [I a, I b, I d]] (by simp; omega)
              repeat (cbv; simp only [f0, f1])
              cbv) (Nat.zero_le _) ?_
          try dsimp only [AExit.then, AExit.block]
          repeat refine AWp.seq ?_
          refine AWp.reg1 {} hT (fun A hA => by
              have f0 := ar_add hA z 1 z1 hz1 (by omega) (by omega)
              repeat (cbv; simp only [f0])
              cbv) (Nat.zero_le _) ?_
          try dsimp only [AExit.then, AExit.block]
          refine ⟨(z1, L1), ⟨by dsimp only; omega, by dsimp only; omega, ?_, fun u hu => htake u hu rfl⟩, by dsimp only; omega, by cbv⟩
          dsimp only
          rw [hCt, hL1]
      · have hzn : z = n := by omega
        subst hzn
        rw [List.take_of_length_le (by omega)] at h2 h3
        have hall : c.all (fun s => st.contains s) = true := by
          rw [List.all_eq_true]; exact h3
        have hcc := cci (by omega) (fun s hs => hst s (by have := h3 s hs; rwa [List.contains_eq_mem, decide_eq_true_eq] at this))
        rw [hall] at hF
        simp only [Bool.true_and] at hF
        rw [hF] at hcc
        subst h2
        repeat refine AWp.seq ?_
        refine AWp.reg1 {} hT (fun A hA => by
            have f0 := ar_nlt hA hz
            repeat (cbv; simp only [f0])
            cbv) (Nat.zero_le _) ?_
        try dsimp only [AExit.then, AExit.block]
        repeat refine AWp.seq ?_
        refine AWp.cond (b := false) rfl (AWp.exit ?_)
        try dsimp only [AExit.then, AExit.block]
        rw [if_pos rfl]
        repeat refine AWp.seq ?_
        refine AWp.region ?_
        refine AOps.stepCall hT (an := {}) (fun A hA => by cbv) (Nat.zero_le _) rfl (.inr rfl) rfl rfl rfl (Nat.le_of_ble_eq_true rfl) rfl rfl (hcc) ?_
        refine AOps.done hT (an := {}) (fun A hA => by cbv) (Nat.zero_le _) ?_
        try dsimp only [AExit.then, AExit.block]
        repeat refine AWp.seq ?_
        refine AWp.ret ⟨?_, rfl, rfl, Nat.zero_le _, _, rfl⟩
        rfl
    · have : (decide (2 ≤ n) && decide (n ≤ 3)) = false := by
        rw [Bool.and_eq_false_iff, decide_eq_false_iff_not, decide_eq_false_iff_not]; omega
      rw [this] at cb
      have hFf : F = false := by
        rw [← hF]
        by_cases h1 : 2 ≤ c.length
        · have : ¬ c.length ≤ 3 := by omega
          simp [this]
        · simp [h1]
      rw [hFf]
      repeat refine AWp.seq ?_
      refine AWp.region ?_
      refine AOps.stepCall hT (an := {}) (fun A hA => by
          have f0 := ar_len hA C n hn
          repeat (cbv; simp only [f0])
          cbv) (Nat.zero_le _) rfl (.inr rfl) rfl rfl rfl (Nat.le_of_ble_eq_true rfl) rfl rfl (cb) ?_
      refine AOps.done hT (an := {}) (fun A hA => by cbv) (Nat.zero_le _) ?_
      try dsimp only [AExit.then, AExit.block]
      repeat refine AWp.seq ?_
      refine AWp.cond (b := true) rfl ?_
      rw [if_pos rfl]
      repeat refine AWp.seq ?_
      refine AWp.reg1 {} hT (fun A hA => by cbv) (Nat.zero_le _) ?_
      try dsimp only [AExit.then, AExit.block]
      repeat refine AWp.seq ?_
      refine AWp.ret ⟨?_, rfl, rfl, Nat.zero_le _, _, rfl⟩
      rfl

/-- Which station comes first. -/
def earl (r s : Sta) : Bool := if r.1 ≠ s.1 then decide (r.1 < s.1) else if r.2.1 ≠ s.2.1 then decide (r.2.1 < s.2.1) else if r.2.2 ≠ s.2.2 then decide (r.2.2 < s.2.2) else false
theorem ar_nat {A : Ar} (hA : A = Ar.std) (n : Int) (k : Nat) (h : n.toNat = k) : A.nat n = k := by subst hA; exact h
theorem ar_l3 {A : Ar} (hA : A = Ar.std) (z : Int) (h : z < 3) : A.zlt z (Int.ofNat 3) = true := by subst hA; exact decide_eq_true h
theorem earlier_ok (r s : Sta) : ACall P 35 [.d (dSta r), .d (dSta s)] [] (AB (earl r s)) [] := by
  obtain ⟨a, b, c⟩ := r
  obtain ⟨a', b', c'⟩ := s
  unfold dSta earl
  dsimp only
  refine ACall.enter hT (fn := Try.f35) Try.func35 rfl (by decide) (by simp [Try.f35]) rfl rfl rfl rfl (Nat.le_refl _) ?_
  repeat refine AWp.seq ?_
  refine AWp.reg1 {} hT (fun A hA => by cbv) (Nat.zero_le _) ?_
  try dsimp only [AExit.then, AExit.block]
  repeat refine AWp.seq ?_
  refine AWp.reg1 {} hT (fun A hA => by cbv) (Nat.zero_le _) ?_
  try dsimp only [AExit.then, AExit.block]
  refine AWp.block (AWp.loopInv (ι := Int) (fun z => (z = 0 ∨ z = 1 ∨ z = 2 ∨ z = 3) ∧ (1 ≤ z → a = a') ∧ (2 ≤ z → b = b') ∧ (3 ≤ z → c = c')) (fun z => (3 - z).toNat) [2, 3, 6]
    (fun z => { env := [(2, .lbox [AI a, AI b, AI c]), (3, .lbox [AI a', AI b', AI c']), (6, AI z)], heap := [], n := 24 }) 0 (by cbv) ⟨.inl rfl, by omega, by omega, by omega⟩ ?_)
  rintro z ⟨h0 | h0 | h0 | h0, h1, h2, h3⟩
  · subst h0
    repeat refine AWp.seq ?_
    refine AWp.reg1 {} hT (fun A hA => by
        have f0 := ar_lt hA (show (0 : Int) < 3 by omega)
        repeat (cbv; simp only [f0])
        cbv) (Nat.zero_le _) ?_
    try dsimp only [AExit.then, AExit.block]
    repeat refine AWp.seq ?_
    refine AWp.cond (b := true) rfl (AWp.skip ?_)
    try dsimp only [AExit.then, AExit.block]
    repeat refine AWp.seq ?_
    refine AWp.block ?_
    repeat refine AWp.seq ?_
    refine AWp.reg1 {} hT (fun A hA => by cbv) (Nat.zero_le _) ?_
    try dsimp only [AExit.then, AExit.block]
    by_cases e : a = a'
    · repeat refine AWp.seq ?_
      refine AWp.reg1D {} hT rfl (fun A hA => by
          have f0 := ar_le hA (show (0 : Int) ≤ 0 by omega)
          have f1 := ar_l3 hA 0 (by omega)
          have f2 := ar_nat hA 0 0 rfl
          have f3 := ar_eq hA e
          repeat (cbv; simp only [f0, f1, f2, f3])
          cbv) (by kernel_rfl) (Nat.zero_le _) ?_
      try dsimp only [AExit.then, AExit.block]
      repeat refine AWp.seq ?_
      refine AWp.cond (b := false) rfl (AWp.skip ?_)
      try dsimp only [AExit.then, AExit.block]
      repeat refine AWp.seq ?_
      refine AWp.reg1 {} hT (fun A hA => by
          have f0 := ar_add hA 0 1 1 rfl (by omega) (by omega)
          repeat (cbv; simp only [f0])
          cbv) (Nat.zero_le _) ?_
      try dsimp only [AExit.then, AExit.block]
      exact ⟨1, ⟨by omega, fun _ => e, by omega, by omega⟩, by omega, by cbv⟩
    · obtain ⟨q, hq⟩ : ∃ q, decide (a < a') = q := ⟨_, rfl⟩
      have hlt : ∀ A : Ar, A = Ar.std → A.zlt a a' = q := fun A hA => by subst hA; exact hq
      repeat refine AWp.seq ?_
      refine AWp.reg1D {} hT rfl (fun A hA => by
          have f0 := ar_le hA (show (0 : Int) ≤ 0 by omega)
          have f1 := ar_l3 hA 0 (by omega)
          have f2 := ar_nat hA 0 0 rfl
          have f3 := ar_ne hA e
          repeat (cbv; simp only [f0, f1, f2, f3])
          cbv) (by kernel_rfl) (Nat.zero_le _) ?_
      try dsimp only [AExit.then, AExit.block]
      repeat refine AWp.seq ?_
      refine AWp.cond (b := true) rfl ?_
      rw [if_pos rfl]
      repeat refine AWp.seq ?_
      refine AWp.reg1D {} hT rfl (fun A hA => by
          have f0 := ar_le hA (show (0 : Int) ≤ 0 by omega)
          have f1 := ar_l3 hA 0 (by omega)
          have f2 := ar_nat hA 0 0 rfl
          have f3 := hlt A hA
          repeat (cbv; simp only [f0, f1, f2, f3])
          cbv) (by kernel_rfl) (Nat.zero_le _) ?_
      try dsimp only [AExit.then, AExit.block]
      repeat refine AWp.seq ?_
      refine AWp.ret ⟨?_, rfl, rfl, Nat.zero_le _, _, rfl⟩
      rw [if_pos e, hq]; rfl
  · subst h0
    have e1 := h1 (by omega)
    repeat refine AWp.seq ?_
    refine AWp.reg1 {} hT (fun A hA => by
        have f0 := ar_lt hA (show (1 : Int) < 3 by omega)
        repeat (cbv; simp only [f0])
        cbv) (Nat.zero_le _) ?_
    try dsimp only [AExit.then, AExit.block]
    repeat refine AWp.seq ?_
    refine AWp.cond (b := true) rfl (AWp.skip ?_)
    try dsimp only [AExit.then, AExit.block]
    repeat refine AWp.seq ?_
    refine AWp.block ?_
    repeat refine AWp.seq ?_
    refine AWp.reg1 {} hT (fun A hA => by cbv) (Nat.zero_le _) ?_
    try dsimp only [AExit.then, AExit.block]
    by_cases e : b = b'
    · repeat refine AWp.seq ?_
      refine AWp.reg1D {} hT rfl (fun A hA => by
          have f0 := ar_le hA (show (0 : Int) ≤ 1 by omega)
          have f1 := ar_l3 hA 1 (by omega)
          have f2 := ar_nat hA 1 1 rfl
          have f3 := ar_eq hA e
          repeat (cbv; simp only [f0, f1, f2, f3])
          cbv) (by kernel_rfl) (Nat.zero_le _) ?_
      try dsimp only [AExit.then, AExit.block]
      repeat refine AWp.seq ?_
      refine AWp.cond (b := false) rfl (AWp.skip ?_)
      try dsimp only [AExit.then, AExit.block]
      repeat refine AWp.seq ?_
      refine AWp.reg1 {} hT (fun A hA => by
          have f0 := ar_add hA 1 1 2 rfl (by omega) (by omega)
          repeat (cbv; simp only [f0])
          cbv) (Nat.zero_le _) ?_
      try dsimp only [AExit.then, AExit.block]
      exact ⟨2, ⟨by omega, fun _ => e1, fun _ => e, by omega⟩, by omega, by cbv⟩
    · obtain ⟨q, hq⟩ : ∃ q, decide (b < b') = q := ⟨_, rfl⟩
      have hlt : ∀ A : Ar, A = Ar.std → A.zlt b b' = q := fun A hA => by subst hA; exact hq
      repeat refine AWp.seq ?_
      refine AWp.reg1D {} hT rfl (fun A hA => by
          have f0 := ar_le hA (show (0 : Int) ≤ 1 by omega)
          have f1 := ar_l3 hA 1 (by omega)
          have f2 := ar_nat hA 1 1 rfl
          have f3 := ar_ne hA e
          repeat (cbv; simp only [f0, f1, f2, f3])
          cbv) (by kernel_rfl) (Nat.zero_le _) ?_
      try dsimp only [AExit.then, AExit.block]
      repeat refine AWp.seq ?_
      refine AWp.cond (b := true) rfl ?_
      rw [if_pos rfl]
      repeat refine AWp.seq ?_
      refine AWp.reg1D {} hT rfl (fun A hA => by
          have f0 := ar_le hA (show (0 : Int) ≤ 1 by omega)
          have f1 := ar_l3 hA 1 (by omega)
          have f2 := ar_nat hA 1 1 rfl
          have f3 := hlt A hA
          repeat (cbv; simp only [f0, f1, f2, f3])
          cbv) (by kernel_rfl) (Nat.zero_le _) ?_
      try dsimp only [AExit.then, AExit.block]
      repeat refine AWp.seq ?_
      refine AWp.ret ⟨?_, rfl, rfl, Nat.zero_le _, _, rfl⟩
      rw [if_neg (by simpa using e1), if_pos e, hq]; rfl
  · subst h0
    have e1 := h1 (by omega)
    have e2 := h2 (by omega)
    repeat refine AWp.seq ?_
    refine AWp.reg1 {} hT (fun A hA => by
        have f0 := ar_lt hA (show (2 : Int) < 3 by omega)
        repeat (cbv; simp only [f0])
        cbv) (Nat.zero_le _) ?_
    try dsimp only [AExit.then, AExit.block]
    repeat refine AWp.seq ?_
    refine AWp.cond (b := true) rfl (AWp.skip ?_)
    try dsimp only [AExit.then, AExit.block]
    repeat refine AWp.seq ?_
    refine AWp.block ?_
    repeat refine AWp.seq ?_
    refine AWp.reg1 {} hT (fun A hA => by cbv) (Nat.zero_le _) ?_
    try dsimp only [AExit.then, AExit.block]
    by_cases e : c = c'
    · repeat refine AWp.seq ?_
      refine AWp.reg1D {} hT rfl (fun A hA => by
          have f0 := ar_le hA (show (0 : Int) ≤ 2 by omega)
          have f1 := ar_l3 hA 2 (by omega)
          have f2 := ar_nat hA 2 2 rfl
          have f3 := ar_eq hA e
          repeat (cbv; simp only [f0, f1, f2, f3])
          cbv) (by kernel_rfl) (Nat.zero_le _) ?_
      try dsimp only [AExit.then, AExit.block]
      repeat refine AWp.seq ?_
      refine AWp.cond (b := false) rfl (AWp.skip ?_)
      try dsimp only [AExit.then, AExit.block]
      repeat refine AWp.seq ?_
      refine AWp.reg1 {} hT (fun A hA => by
          have f0 := ar_add hA 2 1 3 rfl (by omega) (by omega)
          repeat (cbv; simp only [f0])
          cbv) (Nat.zero_le _) ?_
      try dsimp only [AExit.then, AExit.block]
      exact ⟨3, ⟨by omega, fun _ => e1, fun _ => e2, fun _ => e⟩, by omega, by cbv⟩
    · obtain ⟨q, hq⟩ : ∃ q, decide (c < c') = q := ⟨_, rfl⟩
      have hlt : ∀ A : Ar, A = Ar.std → A.zlt c c' = q := fun A hA => by subst hA; exact hq
      repeat refine AWp.seq ?_
      refine AWp.reg1D {} hT rfl (fun A hA => by
          have f0 := ar_le hA (show (0 : Int) ≤ 2 by omega)
          have f1 := ar_l3 hA 2 (by omega)
          have f2 := ar_nat hA 2 2 rfl
          have f3 := ar_ne hA e
          repeat (cbv; simp only [f0, f1, f2, f3])
          cbv) (by kernel_rfl) (Nat.zero_le _) ?_
      try dsimp only [AExit.then, AExit.block]
      repeat refine AWp.seq ?_
      refine AWp.cond (b := true) rfl ?_
      rw [if_pos rfl]
      repeat refine AWp.seq ?_
      refine AWp.reg1D {} hT rfl (fun A hA => by
          have f0 := ar_le hA (show (0 : Int) ≤ 2 by omega)
          have f1 := ar_l3 hA 2 (by omega)
          have f2 := ar_nat hA 2 2 rfl
          have f3 := hlt A hA
          repeat (cbv; simp only [f0, f1, f2, f3])
          cbv) (by kernel_rfl) (Nat.zero_le _) ?_
      try dsimp only [AExit.then, AExit.block]
      repeat refine AWp.seq ?_
      refine AWp.ret ⟨?_, rfl, rfl, Nat.zero_le _, _, rfl⟩
      rw [if_neg (by simpa using e1), if_neg (by simpa using e2), if_pos e, hq]; rfl
  · subst h0
    have e1 := h1 (by omega)
    have e2 := h2 (by omega)
    have e3 := h3 (by omega)
    repeat refine AWp.seq ?_
    refine AWp.reg1 {} hT (fun A hA => by
        have f0 := ar_nlt hA (show ¬ (3 : Int) < 3 by omega)
        repeat (cbv; simp only [f0])
        cbv) (Nat.zero_le _) ?_
    try dsimp only [AExit.then, AExit.block]
    repeat refine AWp.seq ?_
    refine AWp.cond (b := false) rfl (AWp.exit ?_)
    try dsimp only [AExit.then, AExit.block]
    rw [if_pos rfl]
    repeat refine AWp.seq ?_
    refine AWp.reg1 {} hT (fun A hA => by cbv) (Nat.zero_le _) ?_
    try dsimp only [AExit.then, AExit.block]
    repeat refine AWp.seq ?_
    refine AWp.ret ⟨?_, rfl, rfl, Nat.zero_le _, _, rfl⟩
    rw [if_neg (by simpa using e1), if_neg (by simpa using e2), if_neg (by simpa using e3)]; rfl

/-- Whether all pairs of a circle are among some pairs. -/
def allIn (p c : List Sta) : Bool := c.all fun s => decide (s.2.1 = s.2.2) || p.contains s
theorem all_ok (p c : List Sta) (hp : p.length ≤ 9223372036854775807) (hc : c.length ≤ 9223372036854775807) : ACall P 36 [.d (.list 3 (p.map dSta)), .d (.list 3 (c.map dSta))] [] (AB (allIn p c)) [] := by
  have cin := fun s => in_sta_ok p s hp
  obtain ⟨F, hF⟩ : ∃ F, allIn p c = F := ⟨_, rfl⟩
  rw [hF]
  unfold allIn at hF
  obtain ⟨X, hX⟩ : ∃ X, p.map dSta = X := ⟨_, rfl⟩
  obtain ⟨C, hC⟩ : ∃ X, c.map dSta = X := ⟨_, rfl⟩
  obtain ⟨n, hn⟩ : ∃ n : Int, (C.length : Int) = n := ⟨_, rfl⟩
  have hcn : (c.length : Int) = n := by rw [← hn, ← hC]; simp
  simp only [hX] at cin
  rw [hX, hC]
  refine ACall.enter hT (fn := Try.f36) Try.func36 rfl (by decide) (by simp [Try.f36]) rfl rfl rfl rfl (Nat.le_refl _) ?_
  repeat refine AWp.seq ?_
  refine AWp.reg1 {} hT (fun A hA => by cbv) (Nat.zero_le _) ?_
  try dsimp only [AExit.then, AExit.block]
  repeat refine AWp.seq ?_
  refine AWp.reg1 {} hT (fun A hA => by
      have f0 := ar_len hA C n hn
      repeat (cbv; simp only [f0])
      cbv) (Nat.zero_le _) ?_
  try dsimp only [AExit.then, AExit.block]
  refine AWp.block (AWp.loopInv (ι := Int) (fun z => 0 ≤ z ∧ z ≤ n ∧ ∀ s ∈ c.take z.toNat, (decide (s.2.1 = s.2.2) || p.contains s) = true) (fun z => (n - z).toNat) [0, 7, 8, 9]
    (fun z => { env := [(0, .d (.list 3 X)), (7, .d (.list 3 C)), (8, AI n), (9, AI z)], heap := [], n := 25 }) 0 (by cbv) ⟨Int.le_refl _, by omega, by simp⟩ ?_)
  rintro z ⟨h0, h1, h2⟩
  by_cases hz : z < n
  · obtain ⟨z1, hz1⟩ : ∃ z1, z + 1 = z1 := ⟨_, rfl⟩
    obtain ⟨s, hs⟩ : ∃ s, c[z.toNat]? = some s := ⟨_, List.getElem?_eq_getElem (by omega)⟩
    have hci := cin s
    obtain ⟨r, hr⟩ : ∃ r, p.contains s = r := ⟨_, rfl⟩
    rw [hr] at hci
    have hno : (decide (s.2.1 = s.2.2) || r) = false → F = false := fun h => by
      rw [← hF, List.all_eq_false]
      exact ⟨s, List.mem_of_getElem? hs, by rw [hr, h]; decide⟩
    have hyes : (decide (s.2.1 = s.2.2) || r) = true → ∀ u ∈ c.take z1.toNat, (decide (u.2.1 = u.2.2) || p.contains u) = true := fun h u hu => by
      rw [show z1.toNat = z.toNat + 1 by omega, List.take_add_one, hs] at hu
      simp only [Option.toList_some, List.mem_append, List.mem_singleton] at hu
      rcases hu with hu | rfl
      · exact h2 u hu
      · rw [hr]; exact h
    have hCs : C[z.toNat]? = some (dSta s) := by rw [← hC, List.getElem?_map, hs]; rfl
    obtain ⟨t, a, b⟩ := s
    unfold dSta at hCs hci
    dsimp only at hCs hci hno hyes
    repeat refine AWp.seq ?_
    refine AWp.reg1 {} hT (fun A hA => by
        have f0 := ar_lt hA hz
        repeat (cbv; simp only [f0])
        cbv) (Nat.zero_le _) ?_
    try dsimp only [AExit.then, AExit.block]
    repeat refine AWp.seq ?_
    refine AWp.cond (b := true) rfl (AWp.skip ?_)
    try dsimp only [AExit.then, AExit.block]
    repeat refine AWp.seq ?_
    refine AWp.block ?_
    repeat refine AWp.seq ?_
    refine AWp.reg1 {} hT (fun A hA => by
        have f0 := ar_get hA hCs
        have f1 := ar_le hA h0
        repeat (cbv; simp only [f0, f1])
        cbv) (Nat.zero_le _) ?_
    try dsimp only [AExit.then, AExit.block]
    by_cases e : a = b
    · repeat refine AWp.seq ?_
      refine AWp.reg1 {} hT (fun A hA => by
          have f0 := ar_eq hA e
          repeat (cbv; simp only [f0])
          cbv) (Nat.zero_le _) ?_
      try dsimp only [AExit.then, AExit.block]
      repeat refine AWp.seq ?_
      refine AWp.cond (b := false) rfl (AWp.skip ?_)
      try dsimp only [AExit.then, AExit.block]
      repeat refine AWp.seq ?_
      refine AWp.reg1 {} hT (fun A hA => by
          have f0 := ar_add hA z 1 z1 hz1 (by omega) (by omega)
          repeat (cbv; simp only [f0])
          cbv) (Nat.zero_le _) ?_
      try dsimp only [AExit.then, AExit.block]
      exact ⟨z1, ⟨by omega, by omega, hyes (by simp [e])⟩, by omega, by cbv⟩
    · repeat refine AWp.seq ?_
      refine AWp.region ?_
      refine AOps.stepCall hT (an := {}) (fun A hA => by
          have f0 := ar_ne hA e
          repeat (cbv; simp only [f0])
          cbv) (Nat.zero_le _) rfl (.inr rfl) rfl rfl rfl (Nat.le_of_ble_eq_true rfl) rfl rfl (hci) ?_
      refine AOps.done hT (an := {}) (fun A hA => by cbv) (Nat.zero_le _) ?_
      try dsimp only [AExit.then, AExit.block]
      cases r with
      | true =>
        repeat refine AWp.seq ?_
        refine AWp.cond (b := false) rfl (AWp.skip ?_)
        try dsimp only [AExit.then, AExit.block]
        repeat refine AWp.seq ?_
        refine AWp.reg1 {} hT (fun A hA => by
            have f0 := ar_add hA z 1 z1 hz1 (by omega) (by omega)
            repeat (cbv; simp only [f0])
            cbv) (Nat.zero_le _) ?_
        try dsimp only [AExit.then, AExit.block]
        exact ⟨z1, ⟨by omega, by omega, hyes (by simp)⟩, by omega, by cbv⟩
      | false =>
        repeat refine AWp.seq ?_
        refine AWp.cond (b := true) rfl ?_
        rw [if_pos rfl]
        repeat refine AWp.seq ?_
        refine AWp.reg1 {} hT (fun A hA => by cbv) (Nat.zero_le _) ?_
        try dsimp only [AExit.then, AExit.block]
        repeat refine AWp.seq ?_
        refine AWp.ret ⟨?_, rfl, rfl, Nat.zero_le _, _, rfl⟩
        rw [hno (by simp [e])]; rfl
  · repeat refine AWp.seq ?_
    refine AWp.reg1 {} hT (fun A hA => by
        have f0 := ar_nlt hA hz
        repeat (cbv; simp only [f0])
        cbv) (Nat.zero_le _) ?_
    try dsimp only [AExit.then, AExit.block]
    repeat refine AWp.seq ?_
    refine AWp.cond (b := false) rfl (AWp.exit ?_)
    try dsimp only [AExit.then, AExit.block]
    rw [if_pos rfl]
    repeat refine AWp.seq ?_
    refine AWp.reg1 {} hT (fun A hA => by cbv) (Nat.zero_le _) ?_
    try dsimp only [AExit.then, AExit.block]
    repeat refine AWp.seq ?_
    refine AWp.ret ⟨?_, rfl, rfl, Nat.zero_le _, _, rfl⟩
    rw [List.take_of_length_le (by omega)] at h2
    have : F = true := by rw [← hF, List.all_eq_true]; exact h2
    rw [this]; rfl
end Go.Am
