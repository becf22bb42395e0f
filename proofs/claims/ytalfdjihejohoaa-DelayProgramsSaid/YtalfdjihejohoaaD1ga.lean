/- Own text: D1ga. -/
import Derived.Test.YtalfdjihejohoaaD1ff
set_option maxRecDepth 100000
set_option linter.unusedVariables false
set_option linter.unusedSimpArgs false
namespace Go.Am
open Go Go.Proofs
theorem fencedR_ok (x : List (List Acc)) (l : List Fen) (hx : Big x) (hl : l.length ≤ 1000000000) : ACall P 89 [.d (dX x), .d (.list 2 (l.map dFen))] [] (AI (fencedT x l).2) [] := by
  have cv := validR_ok x hx
  unfold fencedT
  cases hv : valid x with
  | false =>
    rw [hv] at cv
    simp only [Bool.false_eq_true, if_false]
    obtain ⟨X, hX⟩ : ∃ X, dX x = X := ⟨_, rfl⟩
    obtain ⟨L, hL⟩ : ∃ X, l.map dFen = X := ⟨_, rfl⟩
    rw [hX] at cv ⊢
    rw [hL]
    refine ACall.enter hT (fn := Try.f89) Try.func89 rfl (by decide) (by simp [Try.f89]) rfl rfl rfl rfl (Nat.le_refl _) ?_
    repeat refine AWp.seq ?_
    refine AWp.reg1 {} hT (fun A hA => by cbv) (Nat.zero_le _) ?_
    try dsimp only [AExit.then, AExit.block]
    repeat refine AWp.seq ?_
    refine AWp.region ?_
    refine AOps.stepCall hT (an := {}) (fun A hA => by cbv) (Nat.zero_le _) rfl (.inr rfl) rfl rfl rfl (Nat.le_of_ble_eq_true rfl) rfl rfl (cv) ?_
    refine AOps.done hT (an := {}) (fun A hA => by cbv) (Nat.zero_le _) ?_
    try dsimp only [AExit.then, AExit.block]
    repeat refine AWp.seq ?_
    refine AWp.cond (b := true) rfl ?_
    rw [if_pos rfl]
    repeat refine AWp.seq ?_
    refine AWp.reg1 {} hT (fun A hA => by cbv) (Nat.zero_le _) ?_
    try dsimp only [AExit.then, AExit.block]
    repeat refine AWp.seq ?_
    refine AWp.ret ⟨?_, rfl, rfl, Nat.zero_le _, _, rfl⟩
    rfl
  | true =>
    have ca := areFences_ok x l (valid_small hv) hl
    rw [hv] at cv
    simp only [if_true]
    cases hF : fencesB x l with
    | false =>
      rw [hF] at ca
      simp only [Bool.false_eq_true, if_false]
      obtain ⟨X, hX⟩ : ∃ X, dX x = X := ⟨_, rfl⟩
      obtain ⟨L, hL⟩ : ∃ X, l.map dFen = X := ⟨_, rfl⟩
      rw [hX] at cv ca ⊢
      rw [hL] at ca ⊢
      refine ACall.enter hT (fn := Try.f89) Try.func89 rfl (by decide) (by simp [Try.f89]) rfl rfl rfl rfl (Nat.le_refl _) ?_
      repeat refine AWp.seq ?_
      refine AWp.reg1 {} hT (fun A hA => by cbv) (Nat.zero_le _) ?_
      try dsimp only [AExit.then, AExit.block]
      repeat refine AWp.seq ?_
      refine AWp.region ?_
      refine AOps.stepCall hT (an := {}) (fun A hA => by cbv) (Nat.zero_le _) rfl (.inr rfl) rfl rfl rfl (Nat.le_of_ble_eq_true rfl) rfl rfl (cv) ?_
      refine AOps.done hT (an := {}) (fun A hA => by cbv) (Nat.zero_le _) ?_
      try dsimp only [AExit.then, AExit.block]
      repeat refine AWp.seq ?_
      refine AWp.cond (b := false) rfl (AWp.skip ?_)
      try dsimp only [AExit.then, AExit.block]
      repeat refine AWp.seq ?_
      refine AWp.region ?_
      refine AOps.stepCall hT (an := {}) (fun A hA => by cbv) (Nat.zero_le _) rfl (.inr rfl) rfl rfl rfl (Nat.le_of_ble_eq_true rfl) rfl rfl (ca) ?_
      refine AOps.done hT (an := {}) (fun A hA => by cbv) (Nat.zero_le _) ?_
      try dsimp only [AExit.then, AExit.block]
      repeat refine AWp.seq ?_
      refine AWp.cond (b := true) rfl ?_
      rw [if_pos rfl]
      repeat refine AWp.seq ?_
      refine AWp.reg1 {} hT (fun A hA => by cbv) (Nat.zero_le _) ?_
      try dsimp only [AExit.then, AExit.block]
      repeat refine AWp.seq ?_
      refine AWp.ret ⟨?_, rfl, rfl, Nat.zero_le _, _, rfl⟩
      rfl
    | true =>
      rw [hF] at ca
      simp only [if_true]
      obtain ⟨X, hX⟩ : ∃ X, dX x = X := ⟨_, rfl⟩
      obtain ⟨L, hL⟩ : ∃ X, l.map dFen = X := ⟨_, rfl⟩
      rw [hX] at cv ca ⊢
      rw [hL] at ca ⊢
      refine ACall.enter hT (fn := Try.f89) Try.func89 rfl (by decide) (by simp [Try.f89]) rfl rfl rfl rfl (Nat.le_refl _) ?_
      repeat refine AWp.seq ?_
      refine AWp.reg1 {} hT (fun A hA => by cbv) (Nat.zero_le _) ?_
      try dsimp only [AExit.then, AExit.block]
      repeat refine AWp.seq ?_
      refine AWp.region ?_
      refine AOps.stepCall hT (an := {}) (fun A hA => by cbv) (Nat.zero_le _) rfl (.inr rfl) rfl rfl rfl (Nat.le_of_ble_eq_true rfl) rfl rfl (cv) ?_
      refine AOps.done hT (an := {}) (fun A hA => by cbv) (Nat.zero_le _) ?_
      try dsimp only [AExit.then, AExit.block]
      repeat refine AWp.seq ?_
      refine AWp.cond (b := false) rfl (AWp.skip ?_)
      try dsimp only [AExit.then, AExit.block]
      repeat refine AWp.seq ?_
      refine AWp.region ?_
      refine AOps.stepCall hT (an := {}) (fun A hA => by cbv) (Nat.zero_le _) rfl (.inr rfl) rfl rfl rfl (Nat.le_of_ble_eq_true rfl) rfl rfl (ca) ?_
      refine AOps.done hT (an := {}) (fun A hA => by cbv) (Nat.zero_le _) ?_
      try dsimp only [AExit.then, AExit.block]
      repeat refine AWp.seq ?_
      refine AWp.cond (b := false) rfl (AWp.skip ?_)
      try dsimp only [AExit.then, AExit.block]
      repeat refine AWp.seq ?_
      refine AWp.reg1 {} hT (fun A hA => by cbv) (Nat.zero_le _) ?_
      try dsimp only [AExit.then, AExit.block]
      repeat refine AWp.seq ?_
      refine AWp.ret ⟨?_, rfl, rfl, Nat.zero_le _, _, rfl⟩
      rfl
end Go.Am

set_option maxRecDepth 100000
set_option linter.unusedVariables false
set_option linter.unusedSimpArgs false
namespace Go.Am
open Go Go.Proofs
theorem index129 (l : List Int) (s : Int) (hl : l.length ≤ 9223372036854775807) : ∃ r : Int, decide (0 ≤ r) = l.contains s ∧ ACall P 129 [.d (.list 1 (l.map I)), AI s] [] (AI r) [] := by
  refine ⟨match l.findIdx? (fun u => decide (s = u)) with | some i => (i : Int) | none => -1, ?_, ?_⟩
  · cases h : l.findIdx? (fun u => decide (s = u)) with
    | none =>
      rw [List.findIdx?_eq_none_iff] at h
      have : l.contains s = false := by
        rw [List.contains_eq_mem, decide_eq_false_iff_not]
        intro hm
        have := h s hm
        simp at this
      rw [this]; rfl
    | some i =>
      obtain ⟨h1, h2, _⟩ := List.findIdx?_eq_some_iff_getElem.1 h
      have : l.contains s = true := by
        rw [List.contains_eq_mem, decide_eq_true_eq, of_decide_eq_true h2]
        exact List.getElem_mem h1
      rw [this]; simp
  obtain ⟨X, hX⟩ : ∃ X, l.map I = X := ⟨_, rfl⟩
  obtain ⟨n, hn⟩ : ∃ n : Int, (X.length : Int) = n := ⟨_, rfl⟩
  have hln : (l.length : Int) = n := by rw [← hn, ← hX]; simp
  rw [hX]
  refine ACall.enter hT (fn := Try.f129) Try.func129 rfl (by decide) (by simp [Try.f129]) rfl rfl rfl rfl (Nat.le_refl _) ?_
  repeat refine AWp.seq ?_
  refine AWp.reg1 {} hT (fun A hA => by cbv) (Nat.zero_le _) ?_
  try dsimp only [AExit.then, AExit.block]
  repeat refine AWp.seq ?_
  refine AWp.reg1 {} hT (fun A hA => by
      have f0 := ar_len hA X n hn
      repeat (cbv; simp only [f0])
      cbv) (Nat.zero_le _) ?_
  try dsimp only [AExit.then, AExit.block]
  refine AWp.block (AWp.loopInv (ι := Int) (fun z => 0 ≤ z ∧ z ≤ n ∧ ∀ u ∈ l.take z.toNat, decide (s = u) = false) (fun z => (n - z).toNat) [0, 1, 6, 7, 8]
    (fun z => { env := [(0, .d (.list 1 X)), (1, AI s), (6, .d (.list 1 X)), (7, AI n), (8, AI z)], heap := [], n := 19 }) 0 (by cbv) ⟨Int.le_refl _, by omega, by simp⟩ ?_)
  rintro z ⟨h0, h1, h2⟩
  by_cases hz : z < n
  · obtain ⟨z1, hz1⟩ : ∃ z1, z + 1 = z1 := ⟨_, rfl⟩
    obtain ⟨a, hs⟩ : ∃ s, l[z.toNat]? = some s := ⟨_, List.getElem?_eq_getElem (by omega)⟩
    have hXs : X[z.toNat]? = some (I a) := by rw [← hX, List.getElem?_map, hs]; rfl
    repeat refine AWp.seq ?_
    refine AWp.reg1 {} hT (fun A hA => by
        have f0 := ar_lt hA hz
        repeat (cbv; simp only [f0])
        cbv) (Nat.zero_le _) ?_
    try dsimp only [AExit.then, AExit.block]
    repeat refine AWp.seq ?_
    refine AWp.cond (b := true) rfl (AWp.skip ?_)
    try dsimp only [AExit.then, AExit.block]
    repeat refine AWp.seq ?_
    refine AWp.block ?_
    repeat refine AWp.seq ?_
    refine AWp.reg1 {} hT (fun A hA => by cbv) (Nat.zero_le _) ?_
    try dsimp only [AExit.then, AExit.block]
    by_cases e : s = a
    · repeat refine AWp.seq ?_
      refine AWp.reg1 {} hT (fun A hA => by
          have f0 := ar_get hA hXs
          have f1 := ar_le hA h0
          have f2 := ar_eq hA e
          repeat (cbv; simp only [f0, f1, f2])
          cbv) (Nat.zero_le _) ?_
      try dsimp only [AExit.then, AExit.block]
      repeat refine AWp.seq ?_
      refine AWp.cond (b := true) rfl ?_
      rw [if_pos rfl]
      repeat refine AWp.seq ?_
      refine AWp.reg1 {} hT (fun A hA => by cbv) (Nat.zero_le _) ?_
      try dsimp only [AExit.then, AExit.block]
      repeat refine AWp.seq ?_
      refine AWp.ret ⟨?_, rfl, rfl, Nat.zero_le _, _, rfl⟩
      have : l.findIdx? (fun u => decide (s = u)) = some z.toNat := by
        rw [List.findIdx?_eq_some_iff_getElem]
        refine ⟨by omega, ?_, fun j hj => ?_⟩
        · rw [List.getElem?_eq_getElem (by omega)] at hs; injection hs with hs; rw [hs]; exact decide_eq_true e
        · have := h2 l[j] (by rw [List.mem_take_iff_getElem]; exact ⟨j, by omega, rfl⟩)
          rw [this]; decide
      rw [this]
      show _ = some (AI (z.toNat : Int))
      rw [show (z.toNat : Int) = z by omega]
      rfl
    · repeat refine AWp.seq ?_
      refine AWp.reg1 {} hT (fun A hA => by
          have f0 := ar_get hA hXs
          have f1 := ar_le hA h0
          have f2 := ar_ne hA e
          repeat (cbv; simp only [f0, f1, f2])
          cbv) (Nat.zero_le _) ?_
      try dsimp only [AExit.then, AExit.block]
      repeat refine AWp.seq ?_
      refine AWp.cond (b := false) rfl (AWp.skip ?_)
      try dsimp only [AExit.then, AExit.block]
      repeat refine AWp.seq ?_
      refine AWp.reg1 {} hT (fun A hA => by
          have f0 := ar_add hA z 1 z1 hz1 (by omega) (by omega)
          repeat (cbv; simp only [f0])
          cbv) (Nat.zero_le _) ?_
      try dsimp only [AExit.then, AExit.block]
      refine ⟨z1, ⟨by omega, by omega, ?_⟩, by omega, by cbv⟩
      intro u hu
      rw [show z1.toNat = z.toNat + 1 by omega, List.take_add_one, hs] at hu
      simp only [Option.toList_some, List.mem_append, List.mem_singleton] at hu
      rcases hu with hu | rfl
      · exact h2 u hu
      · exact decide_eq_false e
  · repeat refine AWp.seq ?_
    refine AWp.reg1 {} hT (fun A hA => by
        have f0 := ar_nlt hA hz
        repeat (cbv; simp only [f0])
        cbv) (Nat.zero_le _) ?_
    try dsimp only [AExit.then, AExit.block]
    repeat refine AWp.seq ?_
    refine AWp.cond (b := false) rfl (AWp.exit ?_)
    try dsimp only [AExit.then, AExit.block]
    rw [if_pos rfl]
    repeat refine AWp.seq ?_
    refine AWp.reg1 {} hT (fun A hA => by cbv) (Nat.zero_le _) ?_
    try dsimp only [AExit.then, AExit.block]
    repeat refine AWp.seq ?_
    refine AWp.ret ⟨?_, rfl, rfl, Nat.zero_le _, _, rfl⟩
    have : l.findIdx? (fun u => decide (s = u)) = none := by
      rw [List.findIdx?_eq_none_iff]
      intro y hy
      exact h2 y (by rw [List.take_of_length_le (by omega)]; exact hy)
    rw [this]
    rfl
theorem contains_int_ok (l : List Int) (s : Int) (hl : l.length ≤ 9223372036854775807) : ACall P 97 [.d (.list 1 (l.map I)), AI s] [] (AB (l.contains s)) [] := by
  obtain ⟨r, hr, hc⟩ := index129 l s hl
  obtain ⟨b, hb⟩ : ∃ b, l.contains s = b := ⟨_, rfl⟩
  rw [hb] at hr ⊢
  obtain ⟨X, hX⟩ : ∃ X, l.map I = X := ⟨_, rfl⟩
  rw [hX] at hc ⊢
  have hrb : ∀ A : Ar, A = Ar.std → A.zle 0 r = b := fun A hA => by subst hA; exact hr
  refine ACall.enter hT (fn := Try.f97) Try.func97 rfl (by decide) (by simp [Try.f97]) rfl rfl rfl rfl (Nat.le_refl _) ?_
  repeat refine AWp.seq ?_
  refine AWp.reg1 {} hT (fun A hA => by cbv) (Nat.zero_le _) ?_
  try dsimp only [AExit.then, AExit.block]
  repeat refine AWp.seq ?_
  refine AWp.region ?_
  refine AOps.stepCall hT (an := {}) (fun A hA => by cbv) (Nat.zero_le _) rfl (.inr rfl) rfl rfl rfl (Nat.le_of_ble_eq_true rfl) rfl rfl (hc) ?_
  refine AOps.done hT (an := {}) (fun A hA => by
      have f0 := hrb A hA
      repeat (cbv; simp only [f0])
      cbv) (Nat.zero_le _) ?_
  try dsimp only [AExit.then, AExit.block]
  repeat refine AWp.seq ?_
  refine AWp.ret ⟨?_, rfl, rfl, Nat.zero_le _, _, rfl⟩
  rfl
def thAt (n : Nat) (l : List Int) (i : Nat) : Bool := (decide (0 ≤ l.getD i 0) && decide (l.getD i 0 ≤ (n : Int) - 1)) && !(l.take i).contains (l.getD i 0)
def threadsB (n : Nat) (l : List Int) : Bool := (List.range l.length).all (thAt n l) && decide (l.length = n)
theorem AreThreads_ok (n0 : Nat) (l : List Int) (hn0 : n0 ≤ 1000000000) (hl : l.length ≤ 9223372036854775807) : ACall P 51 [AI n0, .d (.list 1 (l.map I))] [] (AB (threadsB n0 l)) [] := by
  have hat : ∀ i, thAt n0 l i = ((decide (0 ≤ l.getD i 0) && decide (l.getD i 0 ≤ (n0 : Int) - 1)) && !(l.take i).contains (l.getD i 0)) := fun i => rfl
  obtain ⟨F, hF⟩ : ∃ F, threadsB n0 l = F := ⟨_, rfl⟩
  rw [hF]
  unfold threadsB at hF
  obtain ⟨at_, hat'⟩ : ∃ f, thAt n0 l = f := ⟨_, rfl⟩
  rw [hat'] at hat hF
  obtain ⟨m, hm⟩ : ∃ m : Int, (n0 : Int) = m := ⟨_, rfl⟩
  rw [hm] at hat ⊢
  obtain ⟨X, hX⟩ : ∃ X, l.map I = X := ⟨_, rfl⟩
  obtain ⟨n, hn⟩ : ∃ n : Int, (X.length : Int) = n := ⟨_, rfl⟩
  have hln : (l.length : Int) = n := by rw [← hn, ← hX]; simp
  rw [hX]
  have hno : ∀ i, i < l.length → at_ i = false → F = false := fun i hi h => by
    rw [← hF, List.all_eq_false.2 ⟨i, by simpa using hi, by rw [h]; decide⟩]; rfl
  refine ACall.enter hT (fn := Try.f51) Try.func51 rfl (by decide) (by simp [Try.f51]) rfl rfl rfl rfl (Nat.le_refl _) ?_
  repeat refine AWp.seq ?_
  refine AWp.reg1 {} hT (fun A hA => by cbv) (Nat.zero_le _) ?_
  try dsimp only [AExit.then, AExit.block]
  repeat refine AWp.seq ?_
  refine AWp.reg1 {} hT (fun A hA => by
      have f0 := ar_len hA X n hn
      repeat (cbv; simp only [f0])
      cbv) (Nat.zero_le _) ?_
  try dsimp only [AExit.then, AExit.block]
  refine AWp.block (AWp.loopInv (ι := Int) (fun z => 0 ≤ z ∧ z ≤ n ∧ ∀ i, i < z.toNat → at_ i = true) (fun z => (n - z).toNat) [0, 1, 9, 10, 11]
    (fun z => { env := [(0, AI m), (1, .d (.list 1 X)), (9, .d (.list 1 X)), (10, AI n), (11, AI z)], heap := [], n := 40 }) 0 (by cbv) ⟨Int.le_refl _, by omega, by simp⟩ ?_)
  rintro z ⟨h0, h1, h2⟩
  by_cases hz : z < n
  · obtain ⟨z1, hz1⟩ : ∃ z1, z + 1 = z1 := ⟨_, rfl⟩
    obtain ⟨t, hs⟩ : ∃ s, l[z.toNat]? = some s := ⟨_, List.getElem?_eq_getElem (by omega)⟩
    have hXs : X[z.toNat]? = some (I t) := by rw [← hX, List.getElem?_map, hs]; rfl
    obtain ⟨tt, htt⟩ : ∃ p, l.getD z.toNat 0 = p := ⟨_, rfl⟩
    have htt' : tt = t := by rw [← htt, List.getD_eq_getElem?_getD, hs]; rfl
    have hatz := hat z.toNat
    rw [htt, htt'] at hatz
    have hno' := hno z.toNat (by omega)
    repeat refine AWp.seq ?_
    refine AWp.reg1 {} hT (fun A hA => by
        have f0 := ar_lt hA hz
        repeat (cbv; simp only [f0])
        cbv) (Nat.zero_le _) ?_
    try dsimp only [AExit.then, AExit.block]
    repeat refine AWp.seq ?_
    refine AWp.cond (b := true) rfl (AWp.skip ?_)
    try dsimp only [AExit.then, AExit.block]
    repeat refine AWp.seq ?_
    refine AWp.block ?_
    repeat refine AWp.seq ?_
    refine AWp.reg1 {} hT (fun A hA => by
        have f0 := ar_get hA hXs
        have f1 := ar_le hA h0
        repeat (cbv; simp only [f0, f1])
        cbv) (Nat.zero_le _) ?_
    try dsimp only [AExit.then, AExit.block]
    by_cases t0 : t < 0
    · rw [show decide (0 ≤ t) = false by simp; omega] at hatz
      repeat refine AWp.seq ?_
      refine AWp.reg1 {} hT (fun A hA => by
          have f0 := ar_lt hA t0
          repeat (cbv; simp only [f0])
          cbv) (Nat.zero_le _) ?_
      try dsimp only [AExit.then, AExit.block]
      repeat refine AWp.seq ?_
      refine AWp.cond (b := true) rfl ?_
      rw [if_pos rfl]
      repeat refine AWp.seq ?_
      refine AWp.reg1 {} hT (fun A hA => by cbv) (Nat.zero_le _) ?_
      try dsimp only [AExit.then, AExit.block]
      obtain rfl := hno' (by rw [hatz]; rfl)
      repeat refine AWp.seq ?_
      refine AWp.ret ⟨?_, rfl, rfl, Nat.zero_le _, _, rfl⟩
      rfl
    · by_cases tm : m ≤ t
      · rw [show decide (t ≤ m - 1) = false by simp; omega] at hatz
        repeat refine AWp.seq ?_
        refine AWp.reg1 {} hT (fun A hA => by
            have f0 := ar_nlt hA t0
            have f1 := ar_le hA tm
            repeat (cbv; simp only [f0, f1])
            cbv) (Nat.zero_le _) ?_
        try dsimp only [AExit.then, AExit.block]
        repeat refine AWp.seq ?_
        refine AWp.cond (b := true) rfl ?_
        rw [if_pos rfl]
        repeat refine AWp.seq ?_
        refine AWp.reg1 {} hT (fun A hA => by cbv) (Nat.zero_le _) ?_
        try dsimp only [AExit.then, AExit.block]
        obtain rfl := hno' (by rw [hatz]; simp)
        repeat refine AWp.seq ?_
        refine AWp.ret ⟨?_, rfl, rfl, Nat.zero_le _, _, rfl⟩
        rfl
      · rw [show decide (0 ≤ t) = true by simp; omega, show decide (t ≤ m - 1) = true by simp; omega] at hatz
        obtain ⟨X2, hX2⟩ : ∃ X2, (l.take z.toNat).map I = X2 := ⟨_, rfl⟩
        have hX2' : X.take z.toNat = X2 := by rw [← hX2, ← hX, List.map_take]
        have hsub : ∀ A : Ar, A = Ar.std → A.sub X 0 z = X2 := fun A hA => by subst hA; rw [← hX2']; simp [Ar.std]
        have hX2n : (X2.length : Int) = z := by rw [← hX2]; simp; omega
        repeat refine AWp.seq ?_
        refine AWp.reg1 {} hT (fun A hA => by
            have f0 := ar_nlt hA t0
            have f1 := ar_nle hA tm
            repeat (cbv; simp only [f0, f1])
            cbv) (Nat.zero_le _) ?_
        try dsimp only [AExit.then, AExit.block]
        repeat refine AWp.seq ?_
        refine AWp.cond (b := false) rfl (AWp.skip ?_)
        try dsimp only [AExit.then, AExit.block]
        repeat refine AWp.seq ?_
        refine AWp.reg1 {} hT (fun A hA => by
            have f0 := hsub A hA
            have f1 := ar_len hA X2 z hX2n
            have f2 := ar_len hA X n hn
            have f3 := ar_le hA h0
            have f4 := ar_le hA h1
            have f5 := ar_le hA (Int.le_refl 0)
            repeat (cbv; simp only [f0, f1, f2, f3, f4, f5])
            cbv) (Nat.zero_le _) ?_
        try dsimp only [AExit.then, AExit.block]
        refine AWp.block (AWp.loopInv (ι := Int) (fun y => 0 ≤ y ∧ y ≤ z ∧ ∀ r ∈ l.take y.toNat, r ≠ t) (fun y => (z - y).toNat) [0, 1, 6, 9, 10, 11, 25, 26, 27]
          (fun y => { env := [(0, AI m), (1, .d (.list 1 X)), (6, AI t), (9, .d (.list 1 X)), (10, AI n), (11, AI z), (25, .d (.list 1 X2)), (26, AI z), (27, AI y)], heap := [], n := 40 }) 0 (by cbv) ⟨Int.le_refl _, by omega, by simp⟩ ?_)
        rintro y ⟨g0, g1, g2⟩
        by_cases hy : y < z
        · obtain ⟨u, hu⟩ : ∃ s, l[y.toNat]? = some s := ⟨_, List.getElem?_eq_getElem (by omega)⟩
          have hLy : X2[y.toNat]? = some (I u) := by rw [← hX2', List.getElem?_take_of_lt (by omega), ← hX, List.getElem?_map, hu]; rfl
          obtain ⟨y1, hy1⟩ : ∃ z1, y + 1 = z1 := ⟨_, rfl⟩
          repeat refine AWp.seq ?_
          refine AWp.reg1 {} hT (fun A hA => by
              have f0 := ar_lt hA hy
              repeat (cbv; simp only [f0])
              cbv) (Nat.zero_le _) ?_
          try dsimp only [AExit.then, AExit.block]
          repeat refine AWp.seq ?_
          refine AWp.cond (b := true) rfl (AWp.skip ?_)
          try dsimp only [AExit.then, AExit.block]
          repeat refine AWp.seq ?_
          refine AWp.block ?_
          repeat refine AWp.seq ?_
          refine AWp.reg1 {} hT (fun A hA => by
              have f0 := ar_get hA hLy
              have f1 := ar_le hA g0
              repeat (cbv; simp only [f0, f1])
              cbv) (Nat.zero_le _) ?_
          try dsimp only [AExit.then, AExit.block]
          by_cases eu : t = u
          · repeat refine AWp.seq ?_
            refine AWp.reg1 {} hT (fun A hA => by
                have f0 := ar_eq hA eu
                repeat (cbv; simp only [f0])
                cbv) (Nat.zero_le _) ?_
            try dsimp only [AExit.then, AExit.block]
            repeat refine AWp.seq ?_
            refine AWp.cond (b := true) rfl ?_
            rw [if_pos rfl]
            repeat refine AWp.seq ?_
            refine AWp.reg1 {} hT (fun A hA => by cbv) (Nat.zero_le _) ?_
            try dsimp only [AExit.then, AExit.block]
            have hmem : (l.take z.toNat).contains t = true := by
              rw [List.contains_eq_mem, decide_eq_true_eq, eu]
              exact List.mem_of_getElem? (i := y.toNat) (by rw [List.getElem?_take_of_lt (by omega)]; exact hu)
            obtain rfl := hno' (by rw [hatz, hmem]; rfl)
            repeat refine AWp.seq ?_
            refine AWp.ret ⟨?_, rfl, rfl, Nat.zero_le _, _, rfl⟩
            rfl
          · repeat refine AWp.seq ?_
            refine AWp.reg1 {} hT (fun A hA => by
                have f0 := ar_ne hA eu
                repeat (cbv; simp only [f0])
                cbv) (Nat.zero_le _) ?_
            try dsimp only [AExit.then, AExit.block]
            repeat refine AWp.seq ?_
            refine AWp.cond (b := false) rfl (AWp.skip ?_)
            try dsimp only [AExit.then, AExit.block]
            repeat refine AWp.seq ?_
            refine AWp.reg1 {} hT (fun A hA => by
                have f0 := ar_add hA y 1 y1 hy1 (by omega) (by omega)
                repeat (cbv; simp only [f0])
                cbv) (Nat.zero_le _) ?_
            try dsimp only [AExit.then, AExit.block]
            refine ⟨y1, ⟨by omega, by omega, ?_⟩, by omega, by cbv⟩
            intro r hr
            rw [show y1.toNat = y.toNat + 1 by omega, List.take_add_one, hu] at hr
            simp only [Option.toList_some, List.mem_append, List.mem_singleton] at hr
            rcases hr with hr | rfl
            · exact g2 r hr
            · exact fun e => eu e.symm
        · repeat refine AWp.seq ?_
          refine AWp.reg1 {} hT (fun A hA => by
              have f0 := ar_nlt hA hy
              repeat (cbv; simp only [f0])
              cbv) (Nat.zero_le _) ?_
          try dsimp only [AExit.then, AExit.block]
          repeat refine AWp.seq ?_
          refine AWp.cond (b := false) rfl (AWp.exit ?_)
          try dsimp only [AExit.then, AExit.block]
          rw [if_pos rfl]
          repeat refine AWp.seq ?_
          refine AWp.reg1 {} hT (fun A hA => by
              have f0 := ar_add hA z 1 z1 hz1 (by omega) (by omega)
              repeat (cbv; simp only [f0])
              cbv) (Nat.zero_le _) ?_
          try dsimp only [AExit.then, AExit.block]
          refine ⟨z1, ⟨by omega, by omega, fun i hi => ?_⟩, by omega, by cbv⟩
          rcases Nat.lt_or_ge i z.toNat with h | h
          · exact h2 i h
          · have hmem : (l.take z.toNat).contains t = false := by
              rw [List.contains_eq_mem, decide_eq_false_iff_not]
              intro hm'
              exact g2 t (by rw [show y.toNat = z.toNat by omega]; exact hm') rfl
            rw [show i = z.toNat by omega, hatz, hmem]; rfl
  · rw [List.all_eq_true.2 (fun i hi => h2 i (by have := List.mem_range.1 hi; omega)), Bool.true_and] at hF
    have heq : ∀ A : Ar, A = Ar.std → A.zeq n m = F := fun A hA => by
      subst hA; rw [← hF]
      show decide (n = m) = decide (l.length = n0)
      by_cases e : n = m
      · rw [decide_eq_true e, decide_eq_true (by omega)]
      · rw [decide_eq_false e, decide_eq_false (by omega)]
    repeat refine AWp.seq ?_
    refine AWp.reg1 {} hT (fun A hA => by
        have f0 := ar_nlt hA hz
        repeat (cbv; simp only [f0])
        cbv) (Nat.zero_le _) ?_
    try dsimp only [AExit.then, AExit.block]
    repeat refine AWp.seq ?_
    refine AWp.cond (b := false) rfl (AWp.exit ?_)
    try dsimp only [AExit.then, AExit.block]
    rw [if_pos rfl]
    repeat refine AWp.seq ?_
    refine AWp.reg1 {} hT (fun A hA => by
        have f0 := ar_len hA X n hn
        have f1 := heq A hA
        repeat (cbv; simp only [f0, f1])
        cbv) (Nat.zero_le _) ?_
    try dsimp only [AExit.then, AExit.block]
    repeat refine AWp.seq ?_
    refine AWp.ret ⟨?_, rfl, rfl, Nat.zero_le _, _, rfl⟩
    rfl
def renamed (x : List (List Acc)) (l : List Int) : List (List Acc) := l.map fun n => x.getD n.toNat []
def renT (x : List (List Acc)) (l : List Int) : List (List Acc) × Int := if valid x then (if threadsB x.length l then (renamed x l, 0) else ([], 2)) else ([], 90)
theorem Renamed_ok (x : List (List Acc)) (l : List Int) (hx : Big x) (hl : l.length ≤ 9223372036854775807) : ACall P 48 [.d (dX x), .d (.list 1 (l.map I))] [] (.tuple [.d (.list 1 ((renT x l).1.map dAccs)), AI (renT x l).2]) [] := by
  have cv := valid_ok x hx
  unfold renT
  cases hv : valid x with
  | false =>
    rw [hv] at cv
    simp only [Bool.false_eq_true, if_false, List.map_nil]
    obtain ⟨X, hX⟩ : ∃ X, dX x = X := ⟨_, rfl⟩
    obtain ⟨L, hL⟩ : ∃ X, l.map I = X := ⟨_, rfl⟩
    rw [hX] at cv ⊢
    rw [hL]
    refine ACall.enter hT (fn := Try.f48) Try.func48 rfl (by decide) (by simp [Try.f48]) rfl rfl rfl rfl (Nat.le_refl _) ?_
    repeat refine AWp.seq ?_
    refine AWp.reg1 {} hT (fun A hA => by cbv) (Nat.zero_le _) ?_
    try dsimp only [AExit.then, AExit.block]
    repeat refine AWp.seq ?_
    refine AWp.block ?_
    repeat refine AWp.seq ?_
    refine AWp.region ?_
    refine AOps.stepCall hT (an := {}) (fun A hA => by cbv) (Nat.zero_le _) rfl (.inr rfl) rfl rfl rfl (Nat.le_of_ble_eq_true rfl) rfl rfl (cv) ?_
    refine AOps.done hT (an := {}) (fun A hA => by cbv) (Nat.zero_le _) ?_
    try dsimp only [AExit.then, AExit.block]
    repeat refine AWp.seq ?_
    refine AWp.cond (b := true) rfl ?_
    rw [if_pos rfl]
    repeat refine AWp.seq ?_
    refine AWp.reg1 {} hT (fun A hA => by cbv) (Nat.zero_le _) ?_
    try dsimp only [AExit.then, AExit.block]
    repeat refine AWp.seq ?_
    refine AWp.ret ⟨?_, rfl, rfl, Nat.zero_le _, _, rfl⟩
    rfl
  | true =>
    have hsm := valid_small hv
    have hs := hsm.1
    rw [hv] at cv
    simp only [if_true]
    have hat : ∀ i, thAt x.length l i = ((decide (0 ≤ l.getD i 0) && decide (l.getD i 0 ≤ (x.length : Int) - 1)) && !(l.take i).contains (l.getD i 0)) := fun i => rfl
    obtain ⟨F, hF⟩ : ∃ F, threadsB x.length l = F := ⟨_, rfl⟩
    rw [hF]
    unfold threadsB at hF
    obtain ⟨at_, hat'⟩ : ∃ f, thAt x.length l = f := ⟨_, rfl⟩
    rw [hat'] at hat hF
    unfold dX at *
    obtain ⟨X, hX⟩ : ∃ X, x.map dAccs = X := ⟨_, rfl⟩
    obtain ⟨m, hm⟩ : ∃ n : Int, (X.length : Int) = n := ⟨_, rfl⟩
    have hxm : (x.length : Int) = m := by rw [← hm, ← hX]; simp
    obtain ⟨L, hL⟩ : ∃ X, l.map I = X := ⟨_, rfl⟩
    obtain ⟨n, hn⟩ : ∃ n : Int, (L.length : Int) = n := ⟨_, rfl⟩
    have hln : (l.length : Int) = n := by rw [← hn, ← hL]; simp
    rw [hX] at cv
    rw [hX, hL]
    rw [hxm] at hat
    by_cases hnm : n = m
    · rw [show decide (l.length = x.length) = true by simp; omega, Bool.and_true] at hF
      have hno : ∀ i, i < l.length → at_ i = false → F = false := fun i hi h => by
        rw [← hF, List.all_eq_false]; exact ⟨i, by simpa using hi, by rw [h]; decide⟩
      obtain ⟨m1, hm1⟩ : ∃ z1, m - 1 = z1 := ⟨_, rfl⟩
      rw [hm1] at hat
      refine ACall.enter hT (fn := Try.f48) Try.func48 rfl (by decide) (by simp [Try.f48]) rfl rfl (by cases F <;> rfl) rfl (Nat.le_refl _) ?_
      repeat refine AWp.seq ?_
      refine AWp.reg1 {} hT (fun A hA => by cbv) (Nat.zero_le _) ?_
      try dsimp only [AExit.then, AExit.block]
      repeat refine AWp.seq ?_
      refine AWp.block ?_
      repeat refine AWp.seq ?_
      refine AWp.region ?_
      refine AOps.stepCall hT (an := {}) (fun A hA => by cbv) (Nat.zero_le _) rfl (.inr rfl) rfl rfl rfl (Nat.le_of_ble_eq_true rfl) rfl rfl (cv) ?_
      refine AOps.done hT (an := {}) (fun A hA => by cbv) (Nat.zero_le _) ?_
      try dsimp only [AExit.then, AExit.block]
      refine AWp.cond (b := false) rfl ?_
      rw [if_neg Bool.false_ne_true]
      repeat refine AWp.seq ?_
      refine AWp.reg1 {} hT (fun A hA => by
          have f0 := ar_len hA L n hn
          have f1 := ar_len hA X m hm
          have f2 := ar_eq hA hnm
          repeat (cbv; simp only [f0, f1, f2])
          cbv) (Nat.zero_le _) ?_
      try dsimp only [AExit.then, AExit.block]
      repeat refine AWp.seq ?_
      refine AWp.cond (b := false) rfl (AWp.skip ?_)
      try dsimp only [AExit.then, AExit.block]
      repeat refine AWp.seq ?_
      refine AWp.reg1 {tk := [6]} hT (fun A hA => by cbv) (Nat.zero_le _) ?_
      try dsimp only [AExit.then, AExit.block]
      repeat refine AWp.seq ?_
      refine AWp.reg1 {} hT (fun A hA => by
          have f0 := ar_len hA L n hn
          repeat (cbv; simp only [f0])
          cbv) (Nat.zero_le _) ?_
      try dsimp only [AExit.then, AExit.block]
      refine AWp.block (AWp.loopInv (ι := Int × List D) (fun p => 0 ≤ p.1 ∧ p.1 ≤ n ∧ p.2 = (renamed x (l.take p.1.toNat)).map dAccs ∧ ∀ i, i < p.1.toNat → at_ i = true) (fun p => (n - p.1).toNat) [0, 1, 6, 19, 20, 21]
        (fun p => { env := [(0, .d (.list 1 X)), (1, .d (.list 1 L)), (6, .own 1 p.2), (19, .d (.list 1 L)), (20, AI n), (21, AI p.1)], heap := [], n := 49 }) (0, []) (by cbv) ⟨Int.le_refl _, by dsimp only; omega, by simp [renamed], by simp⟩ ?_)
      rintro ⟨z, O⟩ ⟨h0, h1, h2, h3⟩
      dsimp only at *
      by_cases hz : z < n
      · obtain ⟨z1, hz1⟩ : ∃ z1, z + 1 = z1 := ⟨_, rfl⟩
        obtain ⟨t, ht⟩ : ∃ s, l[z.toNat]? = some s := ⟨_, List.getElem?_eq_getElem (by omega)⟩
        have hLz : L[z.toNat]? = some (I t) := by rw [← hL, List.getElem?_map, ht]; rfl
        obtain ⟨tt, htt⟩ : ∃ p, l.getD z.toNat 0 = p := ⟨_, rfl⟩
        have htt' : tt = t := by rw [← htt, List.getD_eq_getElem?_getD, ht]; rfl
        have hatz := hat z.toNat
        rw [htt, htt'] at hatz
        have hno' := hno z.toNat (by omega)
        have cb := between_ok 0 t m1
        obtain ⟨in_, hin_⟩ : ∃ b, (decide (0 ≤ t) && decide (t ≤ m1)) = b := ⟨_, rfl⟩
        rw [hin_] at cb hatz
        obtain ⟨X2, hX2⟩ : ∃ X2, (l.take z.toNat).map I = X2 := ⟨_, rfl⟩
        have hX2' : L.take z.toNat = X2 := by rw [← hX2, ← hL, List.map_take]
        have hsub : ∀ A : Ar, A = Ar.std → A.sub L 0 z = X2 := fun A hA => by subst hA; rw [← hX2']; simp [Ar.std]
        have cc := contains_int_ok (l.take z.toNat) t (by rw [List.length_take]; omega)
        rw [hX2] at cc
        obtain ⟨was, hwas⟩ : ∃ b, (l.take z.toNat).contains t = b := ⟨_, rfl⟩
        rw [hwas] at cc hatz
        repeat refine AWp.seq ?_
        refine AWp.reg1 {} hT (fun A hA => by
            have f0 := ar_lt hA hz
            repeat (cbv; simp only [f0])
            cbv) (Nat.zero_le _) ?_
        try dsimp only [AExit.then, AExit.block]
        repeat refine AWp.seq ?_
        refine AWp.cond (b := true) rfl (AWp.skip ?_)
        try dsimp only [AExit.then, AExit.block]
        repeat refine AWp.seq ?_
        refine AWp.block ?_
        repeat refine AWp.seq ?_
        refine AWp.reg1 {} hT (fun A hA => by
            have f0 := ar_get hA hLz
            have f1 := ar_le hA h0
            repeat (cbv; simp only [f0, f1])
            cbv) (Nat.zero_le _) ?_
        try dsimp only [AExit.then, AExit.block]
        cases in_ with
        | false =>
          repeat refine AWp.seq ?_
          refine AWp.region ?_
          refine AOps.stepCall hT (an := {}) (fun A hA => by
              have f0 := ar_len hA X m hm
              have f1 := ar_sub hA m 1 m1 hm1 (by omega) (by omega)
              repeat (cbv; simp only [f0, f1])
              cbv) (Nat.zero_le _) rfl (.inr rfl) rfl rfl rfl (Nat.le_of_ble_eq_true rfl) rfl rfl (cb) ?_
          refine AOps.done hT (an := {}) (fun A hA => by cbv) (Nat.zero_le _) ?_
          try dsimp only [AExit.then, AExit.block]
          repeat refine AWp.seq ?_
          refine AWp.cond (b := true) rfl ?_
          rw [if_pos rfl]
          repeat refine AWp.seq ?_
          refine AWp.reg1 {} hT (fun A hA => by cbv) (Nat.zero_le _) ?_
          try dsimp only [AExit.then, AExit.block]
          obtain rfl := hno' (by rw [hatz]; rfl)
          repeat refine AWp.seq ?_
          refine AWp.ret ⟨?_, rfl, rfl, Nat.zero_le _, _, rfl⟩
          rfl
        | true =>
          rw [Bool.and_eq_true, decide_eq_true_eq, decide_eq_true_eq] at hin_
          cases was with
          | true =>
            repeat refine AWp.seq ?_
            refine AWp.region ?_
            refine AOps.stepCall hT (an := {}) (fun A hA => by
                have f0 := ar_len hA X m hm
                have f1 := ar_sub hA m 1 m1 hm1 (by omega) (by omega)
                repeat (cbv; simp only [f0, f1])
                cbv) (Nat.zero_le _) rfl (.inr rfl) rfl rfl rfl (Nat.le_of_ble_eq_true rfl) rfl rfl (cb) ?_
            refine AOps.stepCall hT (an := {}) (fun A hA => by
                have f0 := hsub A hA
                have f1 := ar_len hA L n hn
                have f2 := ar_le hA h0
                have f3 := ar_le hA h1
                have f4 := ar_le hA (Int.le_refl 0)
                repeat (cbv; simp only [f0, f1, f2, f3, f4])
                cbv) (Nat.zero_le _) rfl (.inr rfl) rfl rfl rfl (Nat.le_of_ble_eq_true rfl) rfl rfl (cc) ?_
            refine AOps.done hT (an := {}) (fun A hA => by cbv) (Nat.zero_le _) ?_
            try dsimp only [AExit.then, AExit.block]
            repeat refine AWp.seq ?_
            refine AWp.cond (b := true) rfl ?_
            rw [if_pos rfl]
            repeat refine AWp.seq ?_
            refine AWp.reg1 {} hT (fun A hA => by cbv) (Nat.zero_le _) ?_
            try dsimp only [AExit.then, AExit.block]
            obtain rfl := hno' (by rw [hatz]; rfl)
            repeat refine AWp.seq ?_
            refine AWp.ret ⟨?_, rfl, rfl, Nat.zero_le _, _, rfl⟩
            rfl
          | false =>
            obtain ⟨R, hR⟩ : ∃ s, x[t.toNat]? = some s := ⟨_, List.getElem?_eq_getElem (by omega)⟩
            have hR1 := hsm.2 R (List.mem_of_getElem? hR)
            have hXt : X[t.toNat]? = some (dAccs R) := by rw [← hX, List.getElem?_map, hR]; rfl
            have ccl := clone_ok R hR1
            unfold dAccs at hXt ccl
            obtain ⟨R', hR'⟩ : ∃ s, R.map dAcc = s := ⟨_, rfl⟩
            rw [hR'] at hXt ccl
            obtain ⟨O1, hO1⟩ : ∃ l3, O ++ [.list 2 R'] = l3 := ⟨_, rfl⟩
            have hOl : O.length ≤ 1000000 := by rw [h2]; unfold renamed; simp; omega
            have hstep : O1 = (renamed x (l.take z1.toNat)).map dAccs := by
              rw [show z1.toNat = z.toNat + 1 by omega, List.take_add_one, ht]
              unfold renamed at h2 ⊢
              rw [List.map_append, List.map_append, ← h2, ← hO1, ← hR']
              simp only [Option.toList_some, List.map_cons, List.map_nil, List.getD_eq_getElem?_getD, hR]
              rfl
            repeat refine AWp.seq ?_
            refine AWp.region ?_
            refine AOps.stepCall hT (an := {}) (fun A hA => by
                have f0 := ar_len hA X m hm
                have f1 := ar_sub hA m 1 m1 hm1 (by omega) (by omega)
                repeat (cbv; simp only [f0, f1])
                cbv) (Nat.zero_le _) rfl (.inr rfl) rfl rfl rfl (Nat.le_of_ble_eq_true rfl) rfl rfl (cb) ?_
            refine AOps.stepCall hT (an := {}) (fun A hA => by
                have f0 := hsub A hA
                have f1 := ar_len hA L n hn
                have f2 := ar_le hA h0
                have f3 := ar_le hA h1
                have f4 := ar_le hA (Int.le_refl 0)
                repeat (cbv; simp only [f0, f1, f2, f3, f4])
                cbv) (Nat.zero_le _) rfl (.inr rfl) rfl rfl rfl (Nat.le_of_ble_eq_true rfl) rfl rfl (cc) ?_
            refine AOps.done hT (an := {}) (fun A hA => by cbv) (Nat.zero_le _) ?_
            try dsimp only [AExit.then, AExit.block]
            repeat refine AWp.seq ?_
            refine AWp.cond (b := false) rfl (AWp.skip ?_)
            try dsimp only [AExit.then, AExit.block]
            repeat refine AWp.seq ?_
            refine AWp.region ?_
            refine AOps.stepCall hT (an := {tk := [6, 39, 46]}) (fun A hA => by
                have f0 := ar_get hA hXt
                have f1 := ar_le hA hin_.1
                repeat (cbv; simp only [f0, f1])
                cbv) (Nat.zero_le _) rfl (.inr rfl) rfl rfl rfl (Nat.le_of_ble_eq_true rfl) rfl rfl (ccl) ?_
            refine AOps.done hT (an := {tk := [6, 39, 46]}) (fun A hA => by
                have f0 := ar_app hA _ _ _ hO1
                have f1 := ar_fits hA O [.list 2 R'] (by simp; omega)
                repeat (cbv; simp only [f0, f1])
                cbv) (Nat.zero_le _) ?_
            try dsimp only [AExit.then, AExit.block]
            repeat refine AWp.seq ?_
            refine AWp.reg1 {} hT (fun A hA => by
                have f0 := ar_add hA z 1 z1 hz1 (by omega) (by omega)
                repeat (cbv; simp only [f0])
                cbv) (Nat.zero_le _) ?_
            try dsimp only [AExit.then, AExit.block]
            refine ⟨(z1, O1), ⟨by dsimp only; omega, by dsimp only; omega, hstep, fun i hi => ?_⟩, by dsimp only; omega, by cbv⟩
            dsimp only at hi
            rcases Nat.lt_or_ge i z.toNat with h | h
            · exact h3 i h
            · rw [show i = z.toNat by omega, hatz]; rfl
      · rw [List.all_eq_true.2 (fun i hi => h3 i (by have := List.mem_range.1 hi; omega))] at hF
        subst hF
        rw [List.take_of_length_le (by omega)] at h2
        simp only [if_true]
        rw [← h2]
        repeat refine AWp.seq ?_
        refine AWp.reg1 {} hT (fun A hA => by
            have f0 := ar_nlt hA hz
            repeat (cbv; simp only [f0])
            cbv) (Nat.zero_le _) ?_
        try dsimp only [AExit.then, AExit.block]
        repeat refine AWp.seq ?_
        refine AWp.cond (b := false) rfl (AWp.exit ?_)
        try dsimp only [AExit.then, AExit.block]
        rw [if_pos rfl]
        repeat refine AWp.seq ?_
        refine AWp.reg1 {} hT (fun A hA => by cbv) (Nat.zero_le _) ?_
        try dsimp only [AExit.then, AExit.block]
        repeat refine AWp.seq ?_
        refine AWp.ret ⟨?_, rfl, rfl, Nat.zero_le _, _, rfl⟩
        rfl
    · rw [show decide (l.length = x.length) = false by simp; omega, Bool.and_false] at hF
      subst hF
      simp only [Bool.false_eq_true, if_false, List.map_nil]
      refine ACall.enter hT (fn := Try.f48) Try.func48 rfl (by decide) (by simp [Try.f48]) rfl rfl rfl rfl (Nat.le_refl _) ?_
      repeat refine AWp.seq ?_
      refine AWp.reg1 {} hT (fun A hA => by cbv) (Nat.zero_le _) ?_
      try dsimp only [AExit.then, AExit.block]
      repeat refine AWp.seq ?_
      refine AWp.block ?_
      repeat refine AWp.seq ?_
      refine AWp.region ?_
      refine AOps.stepCall hT (an := {}) (fun A hA => by cbv) (Nat.zero_le _) rfl (.inr rfl) rfl rfl rfl (Nat.le_of_ble_eq_true rfl) rfl rfl (cv) ?_
      refine AOps.done hT (an := {}) (fun A hA => by cbv) (Nat.zero_le _) ?_
      try dsimp only [AExit.then, AExit.block]
      refine AWp.cond (b := false) rfl ?_
      rw [if_neg Bool.false_ne_true]
      repeat refine AWp.seq ?_
      refine AWp.reg1 {} hT (fun A hA => by
          have f0 := ar_len hA L n hn
          have f1 := ar_len hA X m hm
          have f2 := ar_ne hA hnm
          repeat (cbv; simp only [f0, f1, f2])
          cbv) (Nat.zero_le _) ?_
      try dsimp only [AExit.then, AExit.block]
      repeat refine AWp.seq ?_
      refine AWp.cond (b := true) rfl ?_
      rw [if_pos rfl]
      repeat refine AWp.seq ?_
      refine AWp.reg1 {} hT (fun A hA => by cbv) (Nat.zero_le _) ?_
      try dsimp only [AExit.then, AExit.block]
      repeat refine AWp.seq ?_
      refine AWp.ret ⟨?_, rfl, rfl, Nat.zero_le _, _, rfl⟩
      rfl
end Go.Am
