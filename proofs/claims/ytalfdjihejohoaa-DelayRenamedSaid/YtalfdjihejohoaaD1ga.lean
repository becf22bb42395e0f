/- Own text: D1ga. -/
import Derived.Test.YtalfdjihejohoaaD1fb
import Derived.Test.YtalfdjihejohoaaD1r
set_option maxRecDepth 100000
set_option linter.unusedVariables false
set_option linter.unusedSimpArgs false
namespace Go.Am
open Go Go.Proofs
theorem index119 (x : List (Fen)) (hx : x.length ≤ 9223372036854775807) (f : FuncId) (bs : List AV) (H : List Obj) (p : Fen → Bool) (hin : objsInb H.length H = true) (hbs : inbL H.length bs = true) (hbf : bs.all AV.free = true)
    (hp : ∀ l ∈ x, ACall P f (.d (dFen l) :: bs) H (AB (p l)) H) : ∃ r : Int, (decide (0 ≤ r) = x.any p) ∧ ACall P 136 [.d (.list 2 (x.map dFen)), .func f [] bs] H (AI r) H := by
  refine ⟨match x.findIdx? p with | some i => (i : Int) | none => -1, ?_, ?_⟩
  · cases h : x.findIdx? p with
    | none =>
      rw [List.findIdx?_eq_none_iff] at h
      have : x.any p = false := List.any_eq_false.2 (fun y hy => by rw [h y hy]; exact Bool.false_ne_true)
      rw [this]; rfl
    | some i =>
      obtain ⟨h1, h2, _⟩ := List.findIdx?_eq_some_iff_getElem.1 h
      have : x.any p = true := List.any_eq_true.2 ⟨_, List.getElem_mem h1, h2⟩
      rw [this]; simp
  obtain ⟨X, hX⟩ : ∃ X, x.map dFen = X := ⟨_, rfl⟩
  obtain ⟨n, hn⟩ : ∃ n : Int, (X.length : Int) = n := ⟨_, rfl⟩
  have hxl : (x.length : Int) = n := by rw [← hn, ← hX]; simp
  rw [hX]
  refine ACall.enter hT (fn := Try.f136) Try.func136 rfl (by decide) (by simp [Try.f136]) rfl rfl rfl hin (Nat.le_refl _) ?_
  repeat refine AWp.seq ?_
  refine AWp.reg1 {} hT (fun A hA => by cbv) (Nat.le_refl _) ?_
  try dsimp only [AExit.then, AExit.block]
  repeat refine AWp.seq ?_
  refine AWp.reg1 {} hT (fun A hA => by
      have f0 := ar_len hA X n hn
      repeat (cbv; simp only [f0])
      cbv) (Nat.le_refl _) ?_
  try dsimp only [AExit.then, AExit.block]
  refine AWp.block (AWp.loopInv (ι := Int) (fun z => 0 ≤ z ∧ z ≤ n ∧ ∀ l ∈ x.take z.toNat, p l = false) (fun z => (n - z).toNat) [0, 1, 6, 7, 8]
    (fun z => { env := [(0, .d (.list 2 X)), (1, .func f [] bs), (6, .d (.list 2 X)), (7, AI n), (8, AI z)], heap := H, n := 19 }) 0 (by cbv) ⟨Int.le_refl _, by omega, by simp⟩ ?_)
  rintro z ⟨h0, h1, h2⟩
  by_cases hz : z < n
  · obtain ⟨L, hL⟩ : ∃ L, x[z.toNat]? = some L := ⟨_, List.getElem?_eq_getElem (by omega)⟩
    have hLm := hp L (List.mem_of_getElem? hL)
    have hXt : X[z.toNat]? = some (dFen L) := by rw [← hX, List.getElem?_map, hL]; rfl
    obtain ⟨b, hb⟩ : ∃ b, p L = b := ⟨_, rfl⟩
    rw [hb] at hLm
    
    obtain ⟨v, w⟩ := L
    unfold dFen at hXt hLm
    dsimp only at hXt hLm
    obtain ⟨z1, hz1⟩ : ∃ z1, z + 1 = z1 := ⟨_, rfl⟩
    repeat refine AWp.seq ?_
    refine AWp.reg1 {} hT (fun A hA => by
        have f0 := ar_lt hA hz
        repeat (cbv; simp only [f0])
        cbv) (Nat.le_refl _) ?_
    try dsimp only [AExit.then, AExit.block]
    repeat refine AWp.seq ?_
    refine AWp.cond (b := true) rfl (AWp.skip ?_)
    try dsimp only [AExit.then, AExit.block]
    repeat refine AWp.seq ?_
    refine AWp.block ?_
    repeat refine AWp.seq ?_
    refine AWp.reg1 {} hT (fun A hA => by cbv) (Nat.le_refl _) ?_
    try dsimp only [AExit.then, AExit.block]
    repeat refine AWp.seq ?_
    refine AWp.region ?_
    refine AOps.stepCallW hT (an := {}) (fun A hA => by
        have f0 := ar_get hA hXt
        have f1 := ar_le hA h0
        repeat (cbv; simp only [f0, f1])
        cbv) (Nat.le_refl _) (by first | rfl | exact hin) (by first | rfl | simp [inbL, AV.inb, hbs]) rfl (Nat.le_of_ble_eq_true rfl) rfl (by first | rfl | simp [AV.free, hbf]) (hLm) ?_
    refine AOps.done hT (an := {}) (fun A hA => by cbv) (Nat.le_refl _) ?_
    try dsimp only [AExit.then, AExit.block]
    cases b with
    | true =>
      repeat refine AWp.seq ?_
      refine AWp.cond (b := true) rfl ?_
      rw [if_pos rfl]
      repeat refine AWp.seq ?_
      refine AWp.reg1 {} hT (fun A hA => by cbv) (Nat.le_refl _) ?_
      try dsimp only [AExit.then, AExit.block]
      refine AWp.ret ⟨?_, rfl, hin, Nat.le_refl _, [], by simp⟩
      have : x.findIdx? p = some z.toNat := by
        rw [List.findIdx?_eq_some_iff_getElem]
        refine ⟨by omega, ?_, fun j hj => ?_⟩
        · rw [List.getElem?_eq_getElem (by omega)] at hL; injection hL with hL; rw [hL]; exact hb
        · have := h2 x[j] (by rw [List.mem_take_iff_getElem]; exact ⟨j, by omega, rfl⟩)
          simp [this]
      rw [this]
      show _ = some (AI (z.toNat : Int))
      rw [show (z.toNat : Int) = z by omega]
      rfl
    | false =>
      repeat refine AWp.seq ?_
      refine AWp.cond (b := false) rfl (AWp.skip ?_)
      try dsimp only [AExit.then, AExit.block]
      repeat refine AWp.seq ?_
      refine AWp.reg1 {} hT (fun A hA => by
          have f0 := ar_add hA z 1 z1 hz1 (by omega) (by omega)
          repeat (cbv; simp only [f0])
          cbv) (Nat.le_refl _) ?_
      try dsimp only [AExit.then, AExit.block]
      refine ⟨z1, ⟨by omega, by omega, ?_⟩, by omega, by cbv⟩
      intro l hl
      rw [show z1.toNat = z.toNat + 1 by omega, List.take_add_one, hL] at hl
      simp at hl
      rcases hl with hl | rfl
      · exact h2 l hl
      · exact hb
  · repeat refine AWp.seq ?_
    refine AWp.reg1 {} hT (fun A hA => by
        have f0 := ar_nlt hA hz
        repeat (cbv; simp only [f0])
        cbv) (Nat.le_refl _) ?_
    try dsimp only [AExit.then, AExit.block]
    repeat refine AWp.seq ?_
    refine AWp.cond (b := false) rfl (AWp.exit ?_)
    try dsimp only [AExit.then, AExit.block]
    rw [if_pos rfl]
    repeat refine AWp.seq ?_
    refine AWp.reg1 {} hT (fun A hA => by cbv) (Nat.le_refl _) ?_
    try dsimp only [AExit.then, AExit.block]
    refine AWp.ret ⟨?_, rfl, hin, Nat.le_refl _, [], by simp⟩
    have : x.findIdx? p = none := by
      rw [List.findIdx?_eq_none_iff]
      intro y hy
      exact h2 y (by rw [List.take_of_length_le (by omega)]; exact hy)
    rw [this]
    rfl
theorem contains119 (x : List (Fen)) (hx : x.length ≤ 9223372036854775807) (f : FuncId) (bs : List AV) (H : List Obj) (p : Fen → Bool) (hin : objsInb H.length H = true) (hbs : inbL H.length bs = true) (hbf : bs.all AV.free = true)
    (hp : ∀ l ∈ x, ACall P f (.d (dFen l) :: bs) H (AB (p l)) H) : ACall P 123 [.d (.list 2 (x.map dFen)), .func f [] bs] H (AB (x.any p)) H := by
  obtain ⟨r, hr, hc⟩ := index119 x hx f bs H p hin hbs hbf hp
  obtain ⟨b, hb⟩ : ∃ b, x.any p = b := ⟨_, rfl⟩
  rw [hb] at hr ⊢
  obtain ⟨X, hX⟩ : ∃ X, x.map dFen = X := ⟨_, rfl⟩
  rw [hX] at hc ⊢
  refine ACall.enter hT (fn := Try.f123) Try.func123 rfl (by decide) (by simp [Try.f123]) rfl rfl rfl hin (Nat.le_refl _) ?_
  repeat refine AWp.seq ?_
  refine AWp.reg1 {} hT (fun A hA => by cbv) (Nat.le_refl _) ?_
  try dsimp only [AExit.then, AExit.block]
  repeat refine AWp.seq ?_
  refine AWp.region ?_
  refine AOps.stepCallW hT (an := {}) (fun A hA => by cbv) (Nat.le_refl _) (by first | rfl | exact hin) (by first | rfl | simp [inbL, AV.inb, hbs]) rfl (Nat.le_of_ble_eq_true rfl) rfl (by first | rfl | simp [AV.free, hbf]) (hc) ?_
  have hrb : ∀ A : Ar, A = Ar.std → A.zle 0 r = b := fun A hA => by subst hA; exact hr
  refine AOps.done hT (an := {}) (fun A hA => by
      have f0 := hrb A hA
      repeat (cbv; simp only [f0])
      cbv) (Nat.le_refl _) ?_
  try dsimp only [AExit.then, AExit.block]
  refine AWp.ret ⟨rfl, rfl, hin, Nat.le_refl _, [], by simp⟩
theorem indexI (x : List (Int)) (hx : x.length ≤ 9223372036854775807) (f : FuncId) (bs : List AV) (H : List Obj) (p : Int → Bool) (hin : objsInb H.length H = true) (hbs : inbL H.length bs = true) (hbf : bs.all AV.free = true)
    (hp : ∀ l ∈ x, ACall P f (.d (I l) :: bs) H (AB (p l)) H) : ∃ r : Int, (decide (0 ≤ r) = x.any p) ∧ ACall P 132 [.d (.list 1 (x.map I)), .func f [] bs] H (AI r) H := by
  refine ⟨match x.findIdx? p with | some i => (i : Int) | none => -1, ?_, ?_⟩
  · cases h : x.findIdx? p with
    | none =>
      rw [List.findIdx?_eq_none_iff] at h
      have : x.any p = false := List.any_eq_false.2 (fun y hy => by rw [h y hy]; exact Bool.false_ne_true)
      rw [this]; rfl
    | some i =>
      obtain ⟨h1, h2, _⟩ := List.findIdx?_eq_some_iff_getElem.1 h
      have : x.any p = true := List.any_eq_true.2 ⟨_, List.getElem_mem h1, h2⟩
      rw [this]; simp
  obtain ⟨X, hX⟩ : ∃ X, x.map I = X := ⟨_, rfl⟩
  obtain ⟨n, hn⟩ : ∃ n : Int, (X.length : Int) = n := ⟨_, rfl⟩
  have hxl : (x.length : Int) = n := by rw [← hn, ← hX]; simp
  rw [hX]
  refine ACall.enter hT (fn := Try.f132) Try.func132 rfl (by decide) (by simp [Try.f132]) rfl rfl rfl hin (Nat.le_refl _) ?_
  repeat refine AWp.seq ?_
  refine AWp.reg1 {} hT (fun A hA => by cbv) (Nat.le_refl _) ?_
  try dsimp only [AExit.then, AExit.block]
  repeat refine AWp.seq ?_
  refine AWp.reg1 {} hT (fun A hA => by
      have f0 := ar_len hA X n hn
      repeat (cbv; simp only [f0])
      cbv) (Nat.le_refl _) ?_
  try dsimp only [AExit.then, AExit.block]
  refine AWp.block (AWp.loopInv (ι := Int) (fun z => 0 ≤ z ∧ z ≤ n ∧ ∀ l ∈ x.take z.toNat, p l = false) (fun z => (n - z).toNat) [0, 1, 6, 7, 8]
    (fun z => { env := [(0, .d (.list 1 X)), (1, .func f [] bs), (6, .d (.list 1 X)), (7, AI n), (8, AI z)], heap := H, n := 19 }) 0 (by cbv) ⟨Int.le_refl _, by omega, by simp⟩ ?_)
  rintro z ⟨h0, h1, h2⟩
  by_cases hz : z < n
  · obtain ⟨L, hL⟩ : ∃ L, x[z.toNat]? = some L := ⟨_, List.getElem?_eq_getElem (by omega)⟩
    have hLm := hp L (List.mem_of_getElem? hL)
    have hXt : X[z.toNat]? = some (I L) := by rw [← hX, List.getElem?_map, hL]; rfl
    obtain ⟨b, hb⟩ : ∃ b, p L = b := ⟨_, rfl⟩
    rw [hb] at hLm
    
    skip
    obtain ⟨z1, hz1⟩ : ∃ z1, z + 1 = z1 := ⟨_, rfl⟩
    repeat refine AWp.seq ?_
    refine AWp.reg1 {} hT (fun A hA => by
        have f0 := ar_lt hA hz
        repeat (cbv; simp only [f0])
        cbv) (Nat.le_refl _) ?_
    try dsimp only [AExit.then, AExit.block]
    repeat refine AWp.seq ?_
    refine AWp.cond (b := true) rfl (AWp.skip ?_)
    try dsimp only [AExit.then, AExit.block]
    repeat refine AWp.seq ?_
    refine AWp.block ?_
    repeat refine AWp.seq ?_
    refine AWp.reg1 {} hT (fun A hA => by cbv) (Nat.le_refl _) ?_
    try dsimp only [AExit.then, AExit.block]
    repeat refine AWp.seq ?_
    refine AWp.region ?_
    refine AOps.stepCallW hT (an := {}) (fun A hA => by
        have f0 := ar_get hA hXt
        have f1 := ar_le hA h0
        repeat (cbv; simp only [f0, f1])
        cbv) (Nat.le_refl _) (by first | rfl | exact hin) (by first | rfl | simp [inbL, AV.inb, hbs]) rfl (Nat.le_of_ble_eq_true rfl) rfl (by first | rfl | simp [AV.free, hbf]) (hLm) ?_
    refine AOps.done hT (an := {}) (fun A hA => by cbv) (Nat.le_refl _) ?_
    try dsimp only [AExit.then, AExit.block]
    cases b with
    | true =>
      repeat refine AWp.seq ?_
      refine AWp.cond (b := true) rfl ?_
      rw [if_pos rfl]
      repeat refine AWp.seq ?_
      refine AWp.reg1 {} hT (fun A hA => by cbv) (Nat.le_refl _) ?_
      try dsimp only [AExit.then, AExit.block]
      refine AWp.ret ⟨?_, rfl, hin, Nat.le_refl _, [], by simp⟩
      have : x.findIdx? p = some z.toNat := by
        rw [List.findIdx?_eq_some_iff_getElem]
        refine ⟨by omega, ?_, fun j hj => ?_⟩
        · rw [List.getElem?_eq_getElem (by omega)] at hL; injection hL with hL; rw [hL]; exact hb
        · have := h2 x[j] (by rw [List.mem_take_iff_getElem]; exact ⟨j, by omega, rfl⟩)
          simp [this]
      rw [this]
      show _ = some (AI (z.toNat : Int))
      rw [show (z.toNat : Int) = z by omega]
      rfl
    | false =>
      repeat refine AWp.seq ?_
      refine AWp.cond (b := false) rfl (AWp.skip ?_)
      try dsimp only [AExit.then, AExit.block]
      repeat refine AWp.seq ?_
      refine AWp.reg1 {} hT (fun A hA => by
          have f0 := ar_add hA z 1 z1 hz1 (by omega) (by omega)
          repeat (cbv; simp only [f0])
          cbv) (Nat.le_refl _) ?_
      try dsimp only [AExit.then, AExit.block]
      refine ⟨z1, ⟨by omega, by omega, ?_⟩, by omega, by cbv⟩
      intro l hl
      rw [show z1.toNat = z.toNat + 1 by omega, List.take_add_one, hL] at hl
      simp at hl
      rcases hl with hl | rfl
      · exact h2 l hl
      · exact hb
  · repeat refine AWp.seq ?_
    refine AWp.reg1 {} hT (fun A hA => by
        have f0 := ar_nlt hA hz
        repeat (cbv; simp only [f0])
        cbv) (Nat.le_refl _) ?_
    try dsimp only [AExit.then, AExit.block]
    repeat refine AWp.seq ?_
    refine AWp.cond (b := false) rfl (AWp.exit ?_)
    try dsimp only [AExit.then, AExit.block]
    rw [if_pos rfl]
    repeat refine AWp.seq ?_
    refine AWp.reg1 {} hT (fun A hA => by cbv) (Nat.le_refl _) ?_
    try dsimp only [AExit.then, AExit.block]
    refine AWp.ret ⟨?_, rfl, hin, Nat.le_refl _, [], by simp⟩
    have : x.findIdx? p = none := by
      rw [List.findIdx?_eq_none_iff]
      intro y hy
      exact h2 y (by rw [List.take_of_length_le (by omega)]; exact hy)
    rw [this]
    rfl
theorem containsI (x : List (Int)) (hx : x.length ≤ 9223372036854775807) (f : FuncId) (bs : List AV) (H : List Obj) (p : Int → Bool) (hin : objsInb H.length H = true) (hbs : inbL H.length bs = true) (hbf : bs.all AV.free = true)
    (hp : ∀ l ∈ x, ACall P f (.d (I l) :: bs) H (AB (p l)) H) : ACall P 102 [.d (.list 1 (x.map I)), .func f [] bs] H (AB (x.any p)) H := by
  obtain ⟨r, hr, hc⟩ := indexI x hx f bs H p hin hbs hbf hp
  obtain ⟨b, hb⟩ : ∃ b, x.any p = b := ⟨_, rfl⟩
  rw [hb] at hr ⊢
  obtain ⟨X, hX⟩ : ∃ X, x.map I = X := ⟨_, rfl⟩
  rw [hX] at hc ⊢
  refine ACall.enter hT (fn := Try.f102) Try.func102 rfl (by decide) (by simp [Try.f102]) rfl rfl rfl hin (Nat.le_refl _) ?_
  repeat refine AWp.seq ?_
  refine AWp.reg1 {} hT (fun A hA => by cbv) (Nat.le_refl _) ?_
  try dsimp only [AExit.then, AExit.block]
  repeat refine AWp.seq ?_
  refine AWp.region ?_
  refine AOps.stepCallW hT (an := {}) (fun A hA => by cbv) (Nat.le_refl _) (by first | rfl | exact hin) (by first | rfl | simp [inbL, AV.inb, hbs]) rfl (Nat.le_of_ble_eq_true rfl) rfl (by first | rfl | simp [AV.free, hbf]) (hc) ?_
  have hrb : ∀ A : Ar, A = Ar.std → A.zle 0 r = b := fun A hA => by subst hA; exact hr
  refine AOps.done hT (an := {}) (fun A hA => by
      have f0 := hrb A hA
      repeat (cbv; simp only [f0])
      cbv) (Nat.le_refl _) ?_
  try dsimp only [AExit.then, AExit.block]
  refine AWp.ret ⟨rfl, rfl, hin, Nat.le_refl _, [], by simp⟩
end Go.Am

set_option maxRecDepth 100000
set_option linter.unusedVariables false
set_option linter.unusedSimpArgs false
namespace Go.Am
open Go Go.Proofs
end Go.Am

set_option maxRecDepth 100000
set_option linter.unusedVariables false
set_option linter.unusedSimpArgs false
namespace Go.Am
open Go Go.Proofs
def holdsF (f : Fen) (s : Sta) : Bool := decide (f.1 = s.1) && decide (s.2.1 ≤ f.2) && decide (f.2 < s.2.2)
theorem holds_ok (f : Fen) (s : Sta) : ACall P 105 [.d (dFen f), .d (dSta s)] [] (AB (holdsF f s)) [] := by
  obtain ⟨u, g⟩ := f
  obtain ⟨t, a, b⟩ := s
  unfold dFen dSta holdsF
  dsimp only
  obtain ⟨e1, h1⟩ : ∃ e, decide (u = t) = e := ⟨_, rfl⟩
  obtain ⟨e2, h2⟩ : ∃ e, decide (a ≤ g) = e := ⟨_, rfl⟩
  obtain ⟨e3, h3⟩ : ∃ e, decide (g < b) = e := ⟨_, rfl⟩
  have k1 : ∀ A : Ar, A = Ar.std → A.zeq u t = e1 := fun A hA => by subst hA; exact h1
  have k2 : ∀ A : Ar, A = Ar.std → A.zle a g = e2 := fun A hA => by subst hA; exact h2
  have k3 : ∀ A : Ar, A = Ar.std → A.zlt g b = e3 := fun A hA => by subst hA; exact h3
  rw [h1, h2, h3]
  cases e1 with
  | false =>
    refine ACall.enter hT (fn := Try.f105) Try.func105 rfl (by decide) (by simp [Try.f105]) rfl rfl rfl rfl (Nat.le_refl _) ?_
    repeat refine AWp.seq ?_
    refine AWp.reg1 {} hT (fun A hA => by cbv) (Nat.zero_le _) ?_
    try dsimp only [AExit.then, AExit.block]
    repeat refine AWp.seq ?_
    refine AWp.reg1 {} hT (fun A hA => by
        have f0 := k1 A hA
        repeat (cbv; simp only [f0])
        cbv) (Nat.zero_le _) ?_
    try dsimp only [AExit.then, AExit.block]
    repeat refine AWp.seq ?_
    refine AWp.ret ⟨?_, rfl, rfl, Nat.zero_le _, _, rfl⟩
    rfl
  | true =>
    cases e2 with
    | false =>
      refine ACall.enter hT (fn := Try.f105) Try.func105 rfl (by decide) (by simp [Try.f105]) rfl rfl rfl rfl (Nat.le_refl _) ?_
      repeat refine AWp.seq ?_
      refine AWp.reg1 {} hT (fun A hA => by cbv) (Nat.zero_le _) ?_
      try dsimp only [AExit.then, AExit.block]
      repeat refine AWp.seq ?_
      refine AWp.reg1 {} hT (fun A hA => by
          have f0 := k1 A hA
          have f1 := k2 A hA
          repeat (cbv; simp only [f0, f1])
          cbv) (Nat.zero_le _) ?_
      try dsimp only [AExit.then, AExit.block]
      repeat refine AWp.seq ?_
      refine AWp.ret ⟨?_, rfl, rfl, Nat.zero_le _, _, rfl⟩
      rfl
    | true =>
      refine ACall.enter hT (fn := Try.f105) Try.func105 rfl (by decide) (by simp [Try.f105]) rfl rfl rfl rfl (Nat.le_refl _) ?_
      repeat refine AWp.seq ?_
      refine AWp.reg1 {} hT (fun A hA => by cbv) (Nat.zero_le _) ?_
      try dsimp only [AExit.then, AExit.block]
      repeat refine AWp.seq ?_
      refine AWp.reg1 {} hT (fun A hA => by
          have f0 := k1 A hA
          have f1 := k2 A hA
          have f2 := k3 A hA
          repeat (cbv; simp only [f0, f1, f2])
          cbv) (Nat.zero_le _) ?_
      try dsimp only [AExit.then, AExit.block]
      repeat refine AWp.seq ?_
      refine AWp.ret ⟨?_, rfl, rfl, Nat.zero_le _, _, rfl⟩
      rfl
theorem held1_ok (f : Fen) (s : Sta) : ACall P 124 [.d (dFen f), .ptr 0 0] [.cells [AI s.1, AI s.2.1, AI s.2.2]] (AB (holdsF f s)) [.cells [AI s.1, AI s.2.1, AI s.2.2]] := by
  have ch := holds_ok f s
  obtain ⟨r, hr⟩ : ∃ r, holdsF f s = r := ⟨_, rfl⟩
  rw [hr] at ch ⊢
  obtain ⟨u, g⟩ := f
  obtain ⟨t, a, b⟩ := s
  unfold dFen dSta at *
  dsimp only at *
  refine ACall.enter hT (fn := Try.f124) Try.func124 rfl (by decide) (by simp [Try.f124]) rfl rfl rfl rfl (Nat.le_refl _) ?_
  repeat refine AWp.seq ?_
  refine AWp.reg1 {} hT (fun A hA => by cbv) (Nat.le_of_ble_eq_true rfl) ?_
  try dsimp only [AExit.then, AExit.block]
  repeat refine AWp.seq ?_
  refine AWp.region ?_
  refine AOps.stepCall hT (an := {}) (fun A hA => by cbv) (Nat.le_of_ble_eq_true rfl) rfl (.inr rfl) rfl rfl rfl (Nat.le_of_ble_eq_true rfl) rfl rfl (ch) ?_
  refine AOps.done hT (an := {}) (fun A hA => by cbv) (Nat.le_of_ble_eq_true rfl) ?_
  try dsimp only [AExit.then, AExit.block]
  refine AWp.ret ⟨rfl, rfl, rfl, Nat.le_refl _, [], by simp⟩
def heldF (l : List Fen) (s : Sta) : Bool := l.any fun f => holdsF f s
theorem held_ok (l : List Fen) (s : Sta) (hl : l.length ≤ 1000000000) : ACall P 88 [.d (.list 2 (l.map dFen)), .d (dSta s)] [] (AB (heldF l s)) [] := by
  have cc := contains119 l (by omega) 124 [.ptr 0 0] [.cells [AI s.1, AI s.2.1, AI s.2.2]] (fun f => holdsF f s) rfl rfl rfl (fun f _ => held1_ok f s)
  unfold heldF
  obtain ⟨r, hr⟩ : ∃ r, l.any (fun f => holdsF f s) = r := ⟨_, rfl⟩
  obtain ⟨L, hL⟩ : ∃ X, l.map dFen = X := ⟨_, rfl⟩
  rw [hr] at cc ⊢
  rw [hL] at cc ⊢
  obtain ⟨t, a, b⟩ := s
  unfold dSta
  dsimp only at *
  refine ACall.enter hT (fn := Try.f88) Try.func88 rfl (by decide) (by simp [Try.f88]) rfl rfl rfl rfl (Nat.le_refl _) ?_
  repeat refine AWp.seq ?_
  refine AWp.reg1 {esc := [3]} hT (fun A hA => by cbv) (Nat.zero_le _) ?_
  try dsimp only [AExit.then, AExit.block]
  repeat refine AWp.seq ?_
  refine AWp.region ?_
  refine AOps.stepCallW hT (an := {}) (fun A hA => by cbv) (Nat.zero_le _) (by first | rfl | exact hin) (by first | rfl | simp [inbL, AV.inb, hbs]) rfl (Nat.le_of_ble_eq_true rfl) rfl (by first | rfl | simp [AV.free, hbf]) (cc) ?_
  refine AOps.done hT (an := {}) (fun A hA => by cbv) (Nat.zero_le _) ?_
  try dsimp only [AExit.then, AExit.block]
  refine AWp.ret ⟨rfl, rfl, rfl, Nat.zero_le _, _, rfl⟩
theorem enough1_ok (l : List Fen) (s : Sta) (hl : l.length ≤ 1000000000) : ACall P 126 [.d (dSta s), .ptr 0 0] [.cells [.d (.list 2 (l.map dFen))]] (AB (!heldF l s)) [.cells [.d (.list 2 (l.map dFen))]] := by
  have ch := held_ok l s hl
  obtain ⟨r, hr⟩ : ∃ r, heldF l s = r := ⟨_, rfl⟩
  obtain ⟨L, hL⟩ : ∃ X, l.map dFen = X := ⟨_, rfl⟩
  rw [hr] at ch ⊢
  rw [hL] at ch ⊢
  obtain ⟨t, a, b⟩ := s
  unfold dSta at *
  dsimp only at *
  refine ACall.enter hT (fn := Try.f126) Try.func126 rfl (by decide) (by simp [Try.f126]) rfl rfl rfl rfl (Nat.le_refl _) ?_
  repeat refine AWp.seq ?_
  refine AWp.reg1 {} hT (fun A hA => by cbv) (Nat.le_of_ble_eq_true rfl) ?_
  try dsimp only [AExit.then, AExit.block]
  repeat refine AWp.seq ?_
  refine AWp.region ?_
  refine AOps.stepCall hT (an := {}) (fun A hA => by cbv) (Nat.le_of_ble_eq_true rfl) rfl (.inr rfl) rfl rfl rfl (Nat.le_of_ble_eq_true rfl) rfl rfl (ch) ?_
  refine AOps.done hT (an := {}) (fun A hA => by cbv) (Nat.le_of_ble_eq_true rfl) ?_
  try dsimp only [AExit.then, AExit.block]
  refine AWp.ret ⟨rfl, rfl, rfl, Nat.le_refl _, [], by simp⟩
def enoughF (l : List Fen) (p : List Sta) : Bool := p.all (heldF l)
theorem enough_ok (l : List Fen) (p : List Sta) (hl : l.length ≤ 1000000000) (hp : p.length ≤ 1000000000) : ACall P 91 [.d (.list 2 (l.map dFen)), .d (.list 3 (p.map dSta))] [] (AB (enoughF l p)) [] := by
  have cc := contains98 p (by omega) 126 [.ptr 0 0] [.cells [.d (.list 2 (l.map dFen))]] (fun s => !heldF l s) rfl rfl rfl (fun s _ => enough1_ok l s hl)
  have he : (!p.any fun s => !heldF l s) = enoughF l p := by unfold enoughF; rw [List.not_any_eq_all_not]; simp
  obtain ⟨r, hr⟩ : ∃ r, (p.any fun s => !heldF l s) = r := ⟨_, rfl⟩
  rw [hr] at cc he
  rw [← he]
  obtain ⟨L, hL⟩ : ∃ X, l.map dFen = X := ⟨_, rfl⟩
  obtain ⟨Q, hQ⟩ : ∃ X, p.map dSta = X := ⟨_, rfl⟩
  rw [hL, hQ] at cc
  rw [hL, hQ]
  refine ACall.enter hT (fn := Try.f91) Try.func91 rfl (by decide) (by simp [Try.f91]) rfl rfl rfl rfl (Nat.le_refl _) ?_
  repeat refine AWp.seq ?_
  refine AWp.reg1 {esc := [2]} hT (fun A hA => by cbv) (Nat.zero_le _) ?_
  try dsimp only [AExit.then, AExit.block]
  repeat refine AWp.seq ?_
  refine AWp.region ?_
  refine AOps.stepCallW hT (an := {}) (fun A hA => by cbv) (Nat.zero_le _) (by first | rfl | exact hin) (by first | rfl | simp [inbL, AV.inb, hbs]) rfl (Nat.le_of_ble_eq_true rfl) rfl (by first | rfl | simp [AV.free, hbf]) (cc) ?_
  refine AOps.done hT (an := {}) (fun A hA => by cbv) (Nat.zero_le _) ?_
  try dsimp only [AExit.then, AExit.block]
  refine AWp.ret ⟨rfl, rfl, rfl, Nat.zero_le _, _, rfl⟩
end Go.Am

set_option maxRecDepth 100000
set_option linter.unusedVariables false
set_option linter.unusedSimpArgs false
namespace Go.Am
open Go Go.Proofs
end Go.Am

set_option maxRecDepth 100000
set_option linter.unusedVariables false
set_option linter.unusedSimpArgs false
namespace Go.Am
open Go Go.Proofs
def dRow (l : List Int) : D := .list 1 (l.map I)
def dCost (c : List (List Int)) : D := .list 1 (c.map dRow)
def in19 (n : Int) : Bool := decide (1 ≤ n) && decide (n ≤ 9)
def prAt (x : List (List Acc)) (c : List (List Int)) (t : Nat) : Bool :=
  decide (t < x.length) && decide ((c.getD t []).length = (x.getD t []).length - 1) && (c.getD t []).all in19
def pricedB (x : List (List Acc)) (c : List (List Int)) : Bool := (List.range c.length).all (prAt x c) && decide (c.length = x.length)
theorem priced1_ok (n : Int) : ACall P 127 [AI n] [] (AB (!in19 n)) [] := by
  have cb := between_ok 1 n 9
  unfold in19
  obtain ⟨r, hr⟩ : ∃ r, (decide (1 ≤ n) && decide (n ≤ 9)) = r := ⟨_, rfl⟩
  rw [hr] at cb ⊢
  refine ACall.enter hT (fn := Try.f127) Try.func127 rfl (by decide) (by simp [Try.f127]) rfl rfl rfl rfl (Nat.le_refl _) ?_
  repeat refine AWp.seq ?_
  refine AWp.reg1 {} hT (fun A hA => by cbv) (Nat.zero_le _) ?_
  try dsimp only [AExit.then, AExit.block]
  repeat refine AWp.seq ?_
  refine AWp.region ?_
  refine AOps.stepCall hT (an := {}) (fun A hA => by cbv) (Nat.zero_le _) rfl (.inr rfl) rfl rfl rfl (Nat.le_of_ble_eq_true rfl) rfl rfl (cb) ?_
  refine AOps.done hT (an := {}) (fun A hA => by cbv) (Nat.zero_le _) ?_
  try dsimp only [AExit.then, AExit.block]
  repeat refine AWp.seq ?_
  refine AWp.ret ⟨?_, rfl, rfl, Nat.zero_le _, _, rfl⟩
  rfl
theorem priced_ok (x : List (List Acc)) (c : List (List Int)) (hx : Small x) (hc : c.length ≤ 1000000000) (hcr : ∀ r ∈ c, r.length ≤ 9223372036854775807) : ACall P 93 [.d (dX x), .d (dCost c)] [] (AB (pricedB x c)) [] := by
  have cin := fun (r : List Int) (h : r.length ≤ 9223372036854775807) => containsI r h 127 [] [] (fun n => !in19 n) rfl rfl rfl (fun n _ => priced1_ok n)
  have hpr : ∀ t, prAt x c t = (decide (t < x.length) && decide ((c.getD t []).length = (x.getD t []).length - 1) && (c.getD t []).all in19) := fun t => rfl
  obtain ⟨F, hF⟩ : ∃ F, pricedB x c = F := ⟨_, rfl⟩
  rw [hF]
  unfold pricedB at hF
  obtain ⟨pr, hpr'⟩ : ∃ f, prAt x c = f := ⟨_, rfl⟩
  rw [hpr'] at hpr hF
  unfold dX dCost
  obtain ⟨X, hX⟩ : ∃ X, x.map dAccs = X := ⟨_, rfl⟩
  obtain ⟨C, hC⟩ : ∃ X, c.map dRow = X := ⟨_, rfl⟩
  obtain ⟨m, hm⟩ : ∃ n : Int, (X.length : Int) = n := ⟨_, rfl⟩
  obtain ⟨n, hn⟩ : ∃ n : Int, (C.length : Int) = n := ⟨_, rfl⟩
  have hxm : (x.length : Int) = m := by rw [← hm, ← hX]; simp
  have hcn : (c.length : Int) = n := by rw [← hn, ← hC]; simp
  have hno : ∀ i, i < c.length → pr i = false → F = false := fun i hi h => by
    rw [← hF, List.all_eq_false.2 ⟨i, by simpa using hi, by rw [h]; decide⟩]; rfl
  rw [hX, hC]
  refine ACall.enter hT (fn := Try.f93) Try.func93 rfl (by decide) (by simp [Try.f93]) rfl rfl rfl rfl (Nat.le_refl _) ?_
  repeat refine AWp.seq ?_
  refine AWp.reg1 {} hT (fun A hA => by cbv) (Nat.zero_le _) ?_
  try dsimp only [AExit.then, AExit.block]
  repeat refine AWp.seq ?_
  refine AWp.reg1 {} hT (fun A hA => by
      have f0 := ar_len hA C n hn
      repeat (cbv; simp only [f0])
      cbv) (Nat.zero_le _) ?_
  try dsimp only [AExit.then, AExit.block]
  refine AWp.block (AWp.loopInv (ι := Int) (fun z => 0 ≤ z ∧ z ≤ n ∧ ∀ i, i < z.toNat → pr i = true) (fun z => (n - z).toNat) [0, 1, 7, 8, 9]
    (fun z => { env := [(0, .d (.list 1 X)), (1, .d (.list 1 C)), (7, .d (.list 1 C)), (8, AI n), (9, AI z)], heap := [], n := 40 }) 0 (by cbv) ⟨Int.le_refl _, by omega, by simp⟩ ?_)
  rintro z ⟨h0, h1, h2⟩
  by_cases hz : z < n
  · obtain ⟨r, hr⟩ : ∃ s, c[z.toNat]? = some s := ⟨_, List.getElem?_eq_getElem (by omega)⟩
    obtain ⟨R, hR⟩ : ∃ R, r.map I = R := ⟨_, rfl⟩
    obtain ⟨k, hk⟩ : ∃ n : Int, (R.length : Int) = n := ⟨_, rfl⟩
    have hrk : (r.length : Int) = k := by rw [← hk, ← hR]; simp
    have hCz : C[z.toNat]? = some (.list 1 R) := by rw [← hC, List.getElem?_map, hr, ← hR]; rfl
    have hcc := cin r (hcr r (List.mem_of_getElem? hr))
    obtain ⟨z1, hz1⟩ : ∃ z1, z + 1 = z1 := ⟨_, rfl⟩
    have hprz := hpr z.toNat
    rw [List.getD_eq_getElem?_getD (i := z.toNat) (l := c), hr] at hprz
    simp only [Option.getD_some] at hprz
    have hno' := hno z.toNat (by omega)
    have hal : r.all in19 = !r.any fun n => !in19 n := by rw [List.not_any_eq_all_not]; simp
    obtain ⟨bad, hbad⟩ : ∃ b, (r.any fun n => !in19 n) = b := ⟨_, rfl⟩
    rw [hbad] at hcc hal
    rw [hR] at hcc
    rw [hal] at hprz
    repeat refine AWp.seq ?_
    refine AWp.reg1 {} hT (fun A hA => by
        have f0 := ar_lt hA hz
        repeat (cbv; simp only [f0])
        cbv) (Nat.zero_le _) ?_
    try dsimp only [AExit.then, AExit.block]
    repeat refine AWp.seq ?_
    refine AWp.cond (b := true) rfl (AWp.skip ?_)
    try dsimp only [AExit.then, AExit.block]
    repeat refine AWp.seq ?_
    refine AWp.block ?_
    repeat refine AWp.seq ?_
    refine AWp.reg1 {} hT (fun A hA => by
        have f0 := ar_get hA hCz
        have f1 := ar_le hA h0
        repeat (cbv; simp only [f0, f1])
        cbv) (Nat.zero_le _) ?_
    try dsimp only [AExit.then, AExit.block]
    by_cases hzm : m ≤ z
    · rw [show decide (z.toNat < x.length) = false by simp; omega] at hprz
      repeat refine AWp.seq ?_
      refine AWp.reg1 {} hT (fun A hA => by
          have f0 := ar_len hA X m hm
          have f1 := ar_le hA hzm
          repeat (cbv; simp only [f0, f1])
          cbv) (Nat.zero_le _) ?_
      try dsimp only [AExit.then, AExit.block]
      repeat refine AWp.seq ?_
      refine AWp.cond (b := true) rfl ?_
      rw [if_pos rfl]
      repeat refine AWp.seq ?_
      refine AWp.reg1 {} hT (fun A hA => by cbv) (Nat.zero_le _) ?_
      try dsimp only [AExit.then, AExit.block]
      obtain rfl := hno' (by rw [hprz]; simp)
      repeat refine AWp.seq ?_
      refine AWp.ret ⟨?_, rfl, rfl, Nat.zero_le _, _, rfl⟩
      rfl
    · rw [show decide (z.toNat < x.length) = true by simp; omega] at hprz
      obtain ⟨L, hL⟩ : ∃ L, x[z.toNat]? = some L := ⟨_, List.getElem?_eq_getElem (by omega)⟩
      obtain ⟨L', hL'⟩ : ∃ L', L.map dAcc = L' := ⟨_, rfl⟩
      obtain ⟨j, hj⟩ : ∃ n : Int, (L'.length : Int) = n := ⟨_, rfl⟩
      have hjL : (L.length : Int) = j := by rw [← hj, ← hL']; simp
      have hs2 := hx.2 L (List.mem_of_getElem? hL)
      have hXt : X[z.toNat]? = some (.list 2 L') := by rw [← hX, List.getElem?_map, hL, ← hL']; rfl
      obtain ⟨j1, hj1⟩ : ∃ z1, j - 1 = z1 := ⟨_, rfl⟩
      obtain ⟨q, hq⟩ : ∃ m, max 0 j1 = m := ⟨_, rfl⟩
      have hmax : ∀ A : Ar, A = Ar.std → A.zmax 0 j1 = q := fun A hA => by subst hA; rw [← hq]; simp only [Ar.std]; split <;> omega
      rw [List.getD_eq_getElem?_getD, hL] at hprz
      simp only [Option.getD_some] at hprz
      by_cases hkq : k = q
      · rw [show decide (r.length = L.length - 1) = true by simp; omega] at hprz
        repeat refine AWp.seq ?_
        refine AWp.region ?_
        refine AOps.stepCall hT (an := {}) (fun A hA => by
            have f0 := ar_len hA X m hm
            have f1 := ar_nle hA hzm
            have f2 := ar_len hA R k hk
            have f3 := ar_get hA hXt
            have f4 := ar_le hA h0
            have f5 := ar_len hA L' j hj
            have f6 := ar_sub hA j 1 j1 hj1 (by omega) (by omega)
            have f7 := hmax A hA
            have f8 := ar_eq hA hkq
            repeat (cbv; simp only [f0, f1, f2, f3, f4, f5, f6, f7, f8])
            cbv) (Nat.zero_le _) rfl (.inr rfl) rfl rfl rfl (Nat.le_of_ble_eq_true rfl) rfl rfl (hcc) ?_
        refine AOps.done hT (an := {}) (fun A hA => by cbv) (Nat.zero_le _) ?_
        try dsimp only [AExit.then, AExit.block]
        cases bad with
        | true =>
          repeat refine AWp.seq ?_
          refine AWp.cond (b := true) rfl ?_
          rw [if_pos rfl]
          repeat refine AWp.seq ?_
          refine AWp.reg1 {} hT (fun A hA => by cbv) (Nat.zero_le _) ?_
          try dsimp only [AExit.then, AExit.block]
          obtain rfl := hno' (by rw [hprz]; rfl)
          repeat refine AWp.seq ?_
          refine AWp.ret ⟨?_, rfl, rfl, Nat.zero_le _, _, rfl⟩
          rfl
        | false =>
          repeat refine AWp.seq ?_
          refine AWp.cond (b := false) rfl (AWp.skip ?_)
          try dsimp only [AExit.then, AExit.block]
          repeat refine AWp.seq ?_
          refine AWp.reg1 {} hT (fun A hA => by
              have f0 := ar_add hA z 1 z1 hz1 (by omega) (by omega)
              repeat (cbv; simp only [f0])
              cbv) (Nat.zero_le _) ?_
          try dsimp only [AExit.then, AExit.block]
          refine ⟨z1, ⟨by omega, by omega, fun i hi => ?_⟩, by omega, by cbv⟩
          rcases Nat.lt_or_ge i z.toNat with h | h
          · exact h2 i h
          · rw [show i = z.toNat by omega, hprz]; rfl
      · rw [show decide (r.length = L.length - 1) = false by simp; omega] at hprz
        repeat refine AWp.seq ?_
        refine AWp.reg1 {} hT (fun A hA => by
            have f0 := ar_len hA X m hm
            have f1 := ar_nle hA hzm
            have f2 := ar_len hA R k hk
            have f3 := ar_get hA hXt
            have f4 := ar_le hA h0
            have f5 := ar_len hA L' j hj
            have f6 := ar_sub hA j 1 j1 hj1 (by omega) (by omega)
            have f7 := hmax A hA
            have f8 := ar_ne hA hkq
            repeat (cbv; simp only [f0, f1, f2, f3, f4, f5, f6, f7, f8])
            cbv) (Nat.zero_le _) ?_
        try dsimp only [AExit.then, AExit.block]
        repeat refine AWp.seq ?_
        refine AWp.cond (b := true) rfl ?_
        rw [if_pos rfl]
        repeat refine AWp.seq ?_
        refine AWp.reg1 {} hT (fun A hA => by cbv) (Nat.zero_le _) ?_
        try dsimp only [AExit.then, AExit.block]
        obtain rfl := hno' (by rw [hprz]; rfl)
        repeat refine AWp.seq ?_
        refine AWp.ret ⟨?_, rfl, rfl, Nat.zero_le _, _, rfl⟩
        rfl
  · rw [List.all_eq_true.2 (fun i hi => h2 i (by have := List.mem_range.1 hi; omega)), Bool.true_and] at hF
    have heq : ∀ A : Ar, A = Ar.std → A.zeq n m = F := fun A hA => by
      subst hA; rw [← hF]
      show decide (n = m) = decide (c.length = x.length)
      by_cases e : n = m
      · rw [decide_eq_true e, decide_eq_true (by omega)]
      · rw [decide_eq_false e, decide_eq_false (by omega)]
    repeat refine AWp.seq ?_
    refine AWp.reg1 {} hT (fun A hA => by
        have f0 := ar_nlt hA hz
        repeat (cbv; simp only [f0])
        cbv) (Nat.zero_le _) ?_
    try dsimp only [AExit.then, AExit.block]
    repeat refine AWp.seq ?_
    refine AWp.cond (b := false) rfl (AWp.exit ?_)
    try dsimp only [AExit.then, AExit.block]
    rw [if_pos rfl]
    repeat refine AWp.seq ?_
    refine AWp.reg1 {} hT (fun A hA => by
        have f0 := ar_len hA C n hn
        have f1 := ar_len hA X m hm
        have f2 := heq A hA
        repeat (cbv; simp only [f0, f1, f2])
        cbv) (Nat.zero_le _) ?_
    try dsimp only [AExit.then, AExit.block]
    repeat refine AWp.seq ?_
    refine AWp.ret ⟨?_, rfl, rfl, Nat.zero_le _, _, rfl⟩
    rfl
def priceF (c : List (List Int)) (f : Fen) : Int := (c.getD f.1.toNat []).getD f.2.toNat 0
def costF (c : List (List Int)) (l : List Fen) : Int := (l.map (priceF c)).sum
def inCost (c : List (List Int)) (f : Fen) : Prop := 0 ≤ f.1 ∧ 0 ≤ f.2 ∧ ∃ r, c[f.1.toNat]? = some r ∧ f.2.toNat < r.length
theorem costF_step (c : List (List Int)) (l : List Fen) (z : Nat) (f : Fen) (h : l[z]? = some f) : costF c (l.take (z + 1)) = costF c (l.take z) + priceF c f := by
  unfold costF
  rw [List.take_add_one, h, List.map_append, List.sum_append]; simp
theorem cost_ok (c : List (List Int)) (l : List Fen) (hc : ∀ r ∈ c, ∀ n ∈ r, 0 ≤ n ∧ n ≤ 9) (hl : l.length ≤ 1000000000) (hin : ∀ f ∈ l, inCost c f) : ACall P 94 [.d (dCost c), .d (.list 2 (l.map dFen))] [] (AI (costF c l)) [] := by
  unfold dCost
  obtain ⟨C, hC⟩ : ∃ X, c.map dRow = X := ⟨_, rfl⟩
  obtain ⟨L, hL⟩ : ∃ X, l.map dFen = X := ⟨_, rfl⟩
  obtain ⟨n, hn⟩ : ∃ n : Int, (L.length : Int) = n := ⟨_, rfl⟩
  have hln : (l.length : Int) = n := by rw [← hn, ← hL]; simp
  rw [hC, hL]
  refine ACall.enter hT (fn := Try.f94) Try.func94 rfl (by decide) (by simp [Try.f94]) rfl rfl rfl rfl (Nat.le_refl _) ?_
  repeat refine AWp.seq ?_
  refine AWp.reg1 {} hT (fun A hA => by cbv) (Nat.zero_le _) ?_
  try dsimp only [AExit.then, AExit.block]
  repeat refine AWp.seq ?_
  refine AWp.reg1 {} hT (fun A hA => by cbv) (Nat.zero_le _) ?_
  try dsimp only [AExit.then, AExit.block]
  repeat refine AWp.seq ?_
  refine AWp.reg1 {} hT (fun A hA => by
      have f0 := ar_len hA L n hn
      repeat (cbv; simp only [f0])
      cbv) (Nat.zero_le _) ?_
  try dsimp only [AExit.then, AExit.block]
  refine AWp.block (AWp.loopInv (ι := Int × Int) (fun p => 0 ≤ p.1 ∧ p.1 ≤ n ∧ p.2 = costF c (l.take p.1.toNat) ∧ 0 ≤ p.2 ∧ p.2 ≤ p.1 * 9) (fun p => (n - p.1).toNat) [0, 5, 8, 9, 10]
    (fun p => { env := [(0, .d (.list 1 C)), (5, AI p.2), (8, .d (.list 2 L)), (9, AI n), (10, AI p.1)], heap := [], n := 27 }) (0, 0) (by cbv) ⟨Int.le_refl _, by dsimp only; omega, by simp [costF], by simp, by simp⟩ ?_)
  rintro ⟨z, s⟩ ⟨h0, h1, h2, h3, h4⟩
  dsimp only at *
  by_cases hz : z < n
  · obtain ⟨⟨t, g⟩, hf⟩ : ∃ s, l[z.toNat]? = some s := ⟨_, List.getElem?_eq_getElem (by omega)⟩
    have hLz : L[z.toNat]? = some (.agg [I t, I g]) := by rw [← hL, List.getElem?_map, hf]; rfl
    obtain ⟨q0, q1, r, hr, hg⟩ := hin _ (List.mem_of_getElem? hf)
    dsimp only at q0 q1 hr hg
    obtain ⟨R, hR⟩ : ∃ R, r.map I = R := ⟨_, rfl⟩
    have hCt : C[t.toNat]? = some (.list 1 R) := by rw [← hC, List.getElem?_map, hr, ← hR]; rfl
    obtain ⟨v, hv⟩ : ∃ v, r[g.toNat]? = some v := ⟨_, List.getElem?_eq_getElem hg⟩
    have hRg : R[g.toNat]? = some (I v) := by rw [← hR, List.getElem?_map, hv]; rfl
    have hv9 := hc r (List.mem_of_getElem? hr) v (List.mem_of_getElem? hv)
    have hstep := costF_step c l z.toNat (t, g) hf
    have hpv : priceF c (t, g) = v := by
      unfold priceF
      rw [List.getD_eq_getElem?_getD, List.getD_eq_getElem?_getD, hr]
      simp only [Option.getD_some, hv]
    obtain ⟨z1, hz1⟩ : ∃ z1, z + 1 = z1 := ⟨_, rfl⟩
    obtain ⟨s1, hs1⟩ : ∃ z1, s + v = z1 := ⟨_, rfl⟩
    rw [hpv, ← h2, hs1, show z.toNat + 1 = z1.toNat by omega] at hstep
    repeat refine AWp.seq ?_
    refine AWp.reg1 {} hT (fun A hA => by
        have f0 := ar_lt hA hz
        repeat (cbv; simp only [f0])
        cbv) (Nat.zero_le _) ?_
    try dsimp only [AExit.then, AExit.block]
    repeat refine AWp.seq ?_
    refine AWp.cond (b := true) rfl (AWp.skip ?_)
    try dsimp only [AExit.then, AExit.block]
    repeat refine AWp.seq ?_
    refine AWp.block ?_
    repeat refine AWp.seq ?_
    refine AWp.reg1 {} hT (fun A hA => by
        have f0 := ar_get hA hLz
        have f1 := ar_le hA h0
        repeat (cbv; simp only [f0, f1])
        cbv) (Nat.zero_le _) ?_
    try dsimp only [AExit.then, AExit.block]
    repeat refine AWp.seq ?_
    refine AWp.reg1D {} hT rfl (fun A hA => by
        have f0 := ar_get hA hCt
        have f1 := ar_le hA q0
        have f2 := ar_get hA hRg
        have f3 := ar_le hA q1
        have f4 := ar_add hA s v s1 hs1 (by omega) (by omega)
        repeat (cbv; simp only [f0, f1, f2, f3, f4])
        cbv) (by kernel_rfl) (Nat.zero_le _) ?_
    try dsimp only [AExit.then, AExit.block]
    repeat refine AWp.seq ?_
    refine AWp.reg1 {} hT (fun A hA => by
        have f0 := ar_add hA z 1 z1 hz1 (by omega) (by omega)
        repeat (cbv; simp only [f0])
        cbv) (Nat.zero_le _) ?_
    try dsimp only [AExit.then, AExit.block]
    exact ⟨(z1, s1), ⟨by dsimp only; omega, by dsimp only; omega, hstep.symm, by dsimp only; omega, by dsimp only; omega⟩, by dsimp only; omega, by cbv⟩
  · rw [List.take_of_length_le (by omega)] at h2
    subst h2
    obtain ⟨S, hS⟩ : ∃ S, costF c l = S := ⟨_, rfl⟩
    rw [hS]
    repeat refine AWp.seq ?_
    refine AWp.reg1 {} hT (fun A hA => by
        have f0 := ar_nlt hA hz
        repeat (cbv; simp only [f0])
        cbv) (Nat.zero_le _) ?_
    try dsimp only [AExit.then, AExit.block]
    repeat refine AWp.seq ?_
    refine AWp.cond (b := false) rfl (AWp.exit ?_)
    try dsimp only [AExit.then, AExit.block]
    rw [if_pos rfl]
    repeat refine AWp.seq ?_
    refine AWp.reg1 {} hT (fun A hA => by cbv) (Nat.zero_le _) ?_
    try dsimp only [AExit.then, AExit.block]
    repeat refine AWp.seq ?_
    refine AWp.ret ⟨?_, rfl, rfl, Nat.zero_le _, _, rfl⟩
    rfl
end Go.Am

set_option maxRecDepth 100000
set_option linter.unusedVariables false
set_option linter.unusedSimpArgs false
namespace Go.Am
open Go Go.Proofs
end Go.Am

set_option maxRecDepth 100000
set_option linter.unusedVariables false
set_option linter.unusedSimpArgs false
namespace Go.Am
open Go Go.Proofs
end Go.Am

set_option maxRecDepth 100000
set_option linter.unusedVariables false
set_option linter.unusedSimpArgs false
namespace Go.Am
open Go Go.Proofs
end Go.Am

set_option maxRecDepth 100000
set_option linter.unusedVariables false
set_option linter.unusedSimpArgs false
namespace Go.Am
open Go Go.Proofs
end Go.Am

set_option maxRecDepth 100000
set_option linter.unusedVariables false
set_option linter.unusedSimpArgs false
namespace Go.Am
open Go Go.Proofs
end Go.Am

set_option maxRecDepth 100000
set_option linter.unusedVariables false
set_option linter.unusedSimpArgs false
namespace Go.Am
open Go Go.Proofs
end Go.Am

set_option maxRecDepth 100000
set_option linter.unusedVariables false
set_option linter.unusedSimpArgs false
namespace Go.Am
open Go Go.Proofs
theorem mem_fencesL {x : List (List Acc)} {f : Fen} : f ∈ fencesL x ↔ 0 ≤ f.1 ∧ f.1 < (x.length : Int) ∧ 0 ≤ f.2 ∧ f.2 < rl x f.1 - 1 := by
  unfold fencesL fenT fenRow rl
  simp only [List.mem_flatMap, List.mem_range, List.mem_map]
  constructor
  · rintro ⟨t, ht, g, hg, rfl⟩
    refine ⟨by simp, by simp; omega, by simp, ?_⟩
    simp only [Int.toNat_natCast]
    omega
  · obtain ⟨t, g⟩ := f
    rintro ⟨h1, h2, h3, h4⟩
    dsimp only at *
    exact ⟨t.toNat, by omega, g.toNat, by omega, by simp; omega⟩
theorem priced_row {x : List (List Acc)} {c : List (List Int)} (h : pricedB x c = true) : c.length = x.length ∧ ∀ t r, c[t]? = some r → r.length = (x.getD t []).length - 1 ∧ ∀ n ∈ r, 1 ≤ n ∧ n ≤ 9 := by
  unfold pricedB at h
  rw [Bool.and_eq_true, List.all_eq_true, decide_eq_true_eq] at h
  refine ⟨h.2, fun t r hr => ?_⟩
  have ht := (List.getElem?_eq_some_iff.1 hr).1
  have := h.1 t (by simpa using ht)
  unfold prAt in19 at this
  rw [List.getD_eq_getElem?_getD (l := c), hr] at this
  simp only [Option.getD_some, Bool.and_eq_true, decide_eq_true_eq, List.all_eq_true] at this
  exact ⟨this.1.2, this.2⟩
theorem inCost_of {x : List (List Acc)} {c : List (List Int)} {f : Fen} (hp : pricedB x c = true) (hf : f ∈ fencesL x) : inCost c f := by
  obtain ⟨h1, h2, h3, h4⟩ := mem_fencesL.1 hf
  obtain ⟨g1, g2⟩ := priced_row hp
  refine ⟨h1, h3, c[f.1.toNat]'(by omega), List.getElem?_eq_getElem _, ?_⟩
  rw [(g2 _ _ (List.getElem?_eq_getElem (by omega))).1]
  unfold rl at h4
  omega
theorem priced_09 {x : List (List Acc)} {c : List (List Int)} (hp : pricedB x c = true) : ∀ r ∈ c, ∀ n ∈ r, 0 ≤ n ∧ n ≤ 9 := by
  intro r hr n hn
  obtain ⟨i, hi, rfl⟩ := List.getElem_of_mem hr
  have := ((priced_row hp).2 i _ (List.getElem?_eq_getElem hi)).2 n hn
  omega
end Go.Am

set_option maxRecDepth 100000
set_option linter.unusedVariables false
set_option linter.unusedSimpArgs false
namespace Go.Am
open Go Go.Proofs
end Go.Am

set_option maxRecDepth 100000
set_option linter.unusedVariables false
set_option linter.unusedSimpArgs false
namespace Go.Am
open Go Go.Proofs
theorem index129 (l : List Int) (s : Int) (hl : l.length ≤ 9223372036854775807) : ∃ r : Int, decide (0 ≤ r) = l.contains s ∧ ACall P 129 [.d (.list 1 (l.map I)), AI s] [] (AI r) [] := by
  refine ⟨match l.findIdx? (fun u => decide (s = u)) with | some i => (i : Int) | none => -1, ?_, ?_⟩
  · cases h : l.findIdx? (fun u => decide (s = u)) with
    | none =>
      rw [List.findIdx?_eq_none_iff] at h
      have : l.contains s = false := by
        rw [List.contains_eq_mem, decide_eq_false_iff_not]
        intro hm
        have := h s hm
        simp at this
      rw [this]; rfl
    | some i =>
      obtain ⟨h1, h2, _⟩ := List.findIdx?_eq_some_iff_getElem.1 h
      have : l.contains s = true := by
        rw [List.contains_eq_mem, decide_eq_true_eq, of_decide_eq_true h2]
        exact List.getElem_mem h1
      rw [this]; simp
  obtain ⟨X, hX⟩ : ∃ X, l.map I = X := ⟨_, rfl⟩
  obtain ⟨n, hn⟩ : ∃ n : Int, (X.length : Int) = n := ⟨_, rfl⟩
  have hln : (l.length : Int) = n := by rw [← hn, ← hX]; simp
  rw [hX]
  refine ACall.enter hT (fn := Try.f129) Try.func129 rfl (by decide) (by simp [Try.f129]) rfl rfl rfl rfl (Nat.le_refl _) ?_
  repeat refine AWp.seq ?_
  refine AWp.reg1 {} hT (fun A hA => by cbv) (Nat.zero_le _) ?_
  try dsimp only [AExit.then, AExit.block]
  repeat refine AWp.seq ?_
  refine AWp.reg1 {} hT (fun A hA => by
      have f0 := ar_len hA X n hn
      repeat (cbv; simp only [f0])
      cbv) (Nat.zero_le _) ?_
  try dsimp only [AExit.then, AExit.block]
  refine AWp.block (AWp.loopInv (ι := Int) (fun z => 0 ≤ z ∧ z ≤ n ∧ ∀ u ∈ l.take z.toNat, decide (s = u) = false) (fun z => (n - z).toNat) [0, 1, 6, 7, 8]
    (fun z => { env := [(0, .d (.list 1 X)), (1, AI s), (6, .d (.list 1 X)), (7, AI n), (8, AI z)], heap := [], n := 19 }) 0 (by cbv) ⟨Int.le_refl _, by omega, by simp⟩ ?_)
  rintro z ⟨h0, h1, h2⟩
  by_cases hz : z < n
  · obtain ⟨z1, hz1⟩ : ∃ z1, z + 1 = z1 := ⟨_, rfl⟩
    obtain ⟨a, hs⟩ : ∃ s, l[z.toNat]? = some s := ⟨_, List.getElem?_eq_getElem (by omega)⟩
    have hXs : X[z.toNat]? = some (I a) := by rw [← hX, List.getElem?_map, hs]; rfl
    repeat refine AWp.seq ?_
    refine AWp.reg1 {} hT (fun A hA => by
        have f0 := ar_lt hA hz
        repeat (cbv; simp only [f0])
        cbv) (Nat.zero_le _) ?_
    try dsimp only [AExit.then, AExit.block]
    repeat refine AWp.seq ?_
    refine AWp.cond (b := true) rfl (AWp.skip ?_)
    try dsimp only [AExit.then, AExit.block]
    repeat refine AWp.seq ?_
    refine AWp.block ?_
    repeat refine AWp.seq ?_
    refine AWp.reg1 {} hT (fun A hA => by cbv) (Nat.zero_le _) ?_
    try dsimp only [AExit.then, AExit.block]
    by_cases e : s = a
    · repeat refine AWp.seq ?_
      refine AWp.reg1 {} hT (fun A hA => by
          have f0 := ar_get hA hXs
          have f1 := ar_le hA h0
          have f2 := ar_eq hA e
          repeat (cbv; simp only [f0, f1, f2])
          cbv) (Nat.zero_le _) ?_
      try dsimp only [AExit.then, AExit.block]
      repeat refine AWp.seq ?_
      refine AWp.cond (b := true) rfl ?_
      rw [if_pos rfl]
      repeat refine AWp.seq ?_
      refine AWp.reg1 {} hT (fun A hA => by cbv) (Nat.zero_le _) ?_
      try dsimp only [AExit.then, AExit.block]
      repeat refine AWp.seq ?_
      refine AWp.ret ⟨?_, rfl, rfl, Nat.zero_le _, _, rfl⟩
      have : l.findIdx? (fun u => decide (s = u)) = some z.toNat := by
        rw [List.findIdx?_eq_some_iff_getElem]
        refine ⟨by omega, ?_, fun j hj => ?_⟩
        · rw [List.getElem?_eq_getElem (by omega)] at hs; injection hs with hs; rw [hs]; exact decide_eq_true e
        · have := h2 l[j] (by rw [List.mem_take_iff_getElem]; exact ⟨j, by omega, rfl⟩)
          rw [this]; decide
      rw [this]
      show _ = some (AI (z.toNat : Int))
      rw [show (z.toNat : Int) = z by omega]
      rfl
    · repeat refine AWp.seq ?_
      refine AWp.reg1 {} hT (fun A hA => by
          have f0 := ar_get hA hXs
          have f1 := ar_le hA h0
          have f2 := ar_ne hA e
          repeat (cbv; simp only [f0, f1, f2])
          cbv) (Nat.zero_le _) ?_
      try dsimp only [AExit.then, AExit.block]
      repeat refine AWp.seq ?_
      refine AWp.cond (b := false) rfl (AWp.skip ?_)
      try dsimp only [AExit.then, AExit.block]
      repeat refine AWp.seq ?_
      refine AWp.reg1 {} hT (fun A hA => by
          have f0 := ar_add hA z 1 z1 hz1 (by omega) (by omega)
          repeat (cbv; simp only [f0])
          cbv) (Nat.zero_le _) ?_
      try dsimp only [AExit.then, AExit.block]
      refine ⟨z1, ⟨by omega, by omega, ?_⟩, by omega, by cbv⟩
      intro u hu
      rw [show z1.toNat = z.toNat + 1 by omega, List.take_add_one, hs] at hu
      simp only [Option.toList_some, List.mem_append, List.mem_singleton] at hu
      rcases hu with hu | rfl
      · exact h2 u hu
      · exact decide_eq_false e
  · repeat refine AWp.seq ?_
    refine AWp.reg1 {} hT (fun A hA => by
        have f0 := ar_nlt hA hz
        repeat (cbv; simp only [f0])
        cbv) (Nat.zero_le _) ?_
    try dsimp only [AExit.then, AExit.block]
    repeat refine AWp.seq ?_
    refine AWp.cond (b := false) rfl (AWp.exit ?_)
    try dsimp only [AExit.then, AExit.block]
    rw [if_pos rfl]
    repeat refine AWp.seq ?_
    refine AWp.reg1 {} hT (fun A hA => by cbv) (Nat.zero_le _) ?_
    try dsimp only [AExit.then, AExit.block]
    repeat refine AWp.seq ?_
    refine AWp.ret ⟨?_, rfl, rfl, Nat.zero_le _, _, rfl⟩
    have : l.findIdx? (fun u => decide (s = u)) = none := by
      rw [List.findIdx?_eq_none_iff]
      intro y hy
      exact h2 y (by rw [List.take_of_length_le (by omega)]; exact hy)
    rw [this]
    rfl
theorem contains_int_ok (l : List Int) (s : Int) (hl : l.length ≤ 9223372036854775807) : ACall P 97 [.d (.list 1 (l.map I)), AI s] [] (AB (l.contains s)) [] := by
  obtain ⟨r, hr, hc⟩ := index129 l s hl
  obtain ⟨b, hb⟩ : ∃ b, l.contains s = b := ⟨_, rfl⟩
  rw [hb] at hr ⊢
  obtain ⟨X, hX⟩ : ∃ X, l.map I = X := ⟨_, rfl⟩
  rw [hX] at hc ⊢
  have hrb : ∀ A : Ar, A = Ar.std → A.zle 0 r = b := fun A hA => by subst hA; exact hr
  refine ACall.enter hT (fn := Try.f97) Try.func97 rfl (by decide) (by simp [Try.f97]) rfl rfl rfl rfl (Nat.le_refl _) ?_
  repeat refine AWp.seq ?_
  refine AWp.reg1 {} hT (fun A hA => by cbv) (Nat.zero_le _) ?_
  try dsimp only [AExit.then, AExit.block]
  repeat refine AWp.seq ?_
  refine AWp.region ?_
  refine AOps.stepCall hT (an := {}) (fun A hA => by cbv) (Nat.zero_le _) rfl (.inr rfl) rfl rfl rfl (Nat.le_of_ble_eq_true rfl) rfl rfl (hc) ?_
  refine AOps.done hT (an := {}) (fun A hA => by
      have f0 := hrb A hA
      repeat (cbv; simp only [f0])
      cbv) (Nat.zero_le _) ?_
  try dsimp only [AExit.then, AExit.block]
  repeat refine AWp.seq ?_
  refine AWp.ret ⟨?_, rfl, rfl, Nat.zero_le _, _, rfl⟩
  rfl
def thAt (n : Nat) (l : List Int) (i : Nat) : Bool := (decide (0 ≤ l.getD i 0) && decide (l.getD i 0 ≤ (n : Int) - 1)) && !(l.take i).contains (l.getD i 0)
def threadsB (n : Nat) (l : List Int) : Bool := (List.range l.length).all (thAt n l) && decide (l.length = n)
theorem AreThreads_ok (n0 : Nat) (l : List Int) (hn0 : n0 ≤ 1000000000) (hl : l.length ≤ 9223372036854775807) : ACall P 51 [AI n0, .d (.list 1 (l.map I))] [] (AB (threadsB n0 l)) [] := by
  have hat : ∀ i, thAt n0 l i = ((decide (0 ≤ l.getD i 0) && decide (l.getD i 0 ≤ (n0 : Int) - 1)) && !(l.take i).contains (l.getD i 0)) := fun i => rfl
  obtain ⟨F, hF⟩ : ∃ F, threadsB n0 l = F := ⟨_, rfl⟩
  rw [hF]
  unfold threadsB at hF
  obtain ⟨at_, hat'⟩ : ∃ f, thAt n0 l = f := ⟨_, rfl⟩
  rw [hat'] at hat hF
  obtain ⟨m, hm⟩ : ∃ m : Int, (n0 : Int) = m := ⟨_, rfl⟩
  rw [hm] at hat ⊢
  obtain ⟨X, hX⟩ : ∃ X, l.map I = X := ⟨_, rfl⟩
  obtain ⟨n, hn⟩ : ∃ n : Int, (X.length : Int) = n := ⟨_, rfl⟩
  have hln : (l.length : Int) = n := by rw [← hn, ← hX]; simp
  rw [hX]
  have hno : ∀ i, i < l.length → at_ i = false → F = false := fun i hi h => by
    rw [← hF, List.all_eq_false.2 ⟨i, by simpa using hi, by rw [h]; decide⟩]; rfl
  refine ACall.enter hT (fn := Try.f51) Try.func51 rfl (by decide) (by simp [Try.f51]) rfl rfl rfl rfl (Nat.le_refl _) ?_
  repeat refine AWp.seq ?_
  refine AWp.reg1 {} hT (fun A hA => by cbv) (Nat.zero_le _) ?_
  try dsimp only [AExit.then, AExit.block]
  repeat refine AWp.seq ?_
  refine AWp.reg1 {} hT (fun A hA => by
      have f0 := ar_len hA X n hn
      repeat (cbv; simp only [f0])
      cbv) (Nat.zero_le _) ?_
  try dsimp only [AExit.then, AExit.block]
  refine AWp.block (AWp.loopInv (ι := Int) (fun z => 0 ≤ z ∧ z ≤ n ∧ ∀ i, i < z.toNat → at_ i = true) (fun z => (n - z).toNat) [0, 1, 9, 10, 11]
    (fun z => { env := [(0, AI m), (1, .d (.list 1 X)), (9, .d (.list 1 X)), (10, AI n), (11, AI z)], heap := [], n := 40 }) 0 (by cbv) ⟨Int.le_refl _, by omega, by simp⟩ ?_)
  rintro z ⟨h0, h1, h2⟩
  by_cases hz : z < n
  · obtain ⟨z1, hz1⟩ : ∃ z1, z + 1 = z1 := ⟨_, rfl⟩
    obtain ⟨t, hs⟩ : ∃ s, l[z.toNat]? = some s := ⟨_, List.getElem?_eq_getElem (by omega)⟩
    have hXs : X[z.toNat]? = some (I t) := by rw [← hX, List.getElem?_map, hs]; rfl
    obtain ⟨tt, htt⟩ : ∃ p, l.getD z.toNat 0 = p := ⟨_, rfl⟩
    have htt' : tt = t := by rw [← htt, List.getD_eq_getElem?_getD, hs]; rfl
    have hatz := hat z.toNat
    rw [htt, htt'] at hatz
    have hno' := hno z.toNat (by omega)
    repeat refine AWp.seq ?_
    refine AWp.reg1 {} hT (fun A hA => by
        have f0 := ar_lt hA hz
        repeat (cbv; simp only [f0])
        cbv) (Nat.zero_le _) ?_
    try dsimp only [AExit.then, AExit.block]
    repeat refine AWp.seq ?_
    refine AWp.cond (b := true) rfl (AWp.skip ?_)
    try dsimp only [AExit.then, AExit.block]
    repeat refine AWp.seq ?_
    refine AWp.block ?_
    repeat refine AWp.seq ?_
    refine AWp.reg1 {} hT (fun A hA => by
        have f0 := ar_get hA hXs
        have f1 := ar_le hA h0
        repeat (cbv; simp only [f0, f1])
        cbv) (Nat.zero_le _) ?_
    try dsimp only [AExit.then, AExit.block]
    by_cases t0 : t < 0
    · rw [show decide (0 ≤ t) = false by simp; omega] at hatz
      repeat refine AWp.seq ?_
      refine AWp.reg1 {} hT (fun A hA => by
          have f0 := ar_lt hA t0
          repeat (cbv; simp only [f0])
          cbv) (Nat.zero_le _) ?_
      try dsimp only [AExit.then, AExit.block]
      repeat refine AWp.seq ?_
      refine AWp.cond (b := true) rfl ?_
      rw [if_pos rfl]
      repeat refine AWp.seq ?_
      refine AWp.reg1 {} hT (fun A hA => by cbv) (Nat.zero_le _) ?_
      try dsimp only [AExit.then, AExit.block]
      obtain rfl := hno' (by rw [hatz]; rfl)
      repeat refine AWp.seq ?_
      refine AWp.ret ⟨?_, rfl, rfl, Nat.zero_le _, _, rfl⟩
      rfl
    · by_cases tm : m ≤ t
      · rw [show decide (t ≤ m - 1) = false by simp; omega] at hatz
        repeat refine AWp.seq ?_
        refine AWp.reg1 {} hT (fun A hA => by
            have f0 := ar_nlt hA t0
            have f1 := ar_le hA tm
            repeat (cbv; simp only [f0, f1])
            cbv) (Nat.zero_le _) ?_
        try dsimp only [AExit.then, AExit.block]
        repeat refine AWp.seq ?_
        refine AWp.cond (b := true) rfl ?_
        rw [if_pos rfl]
        repeat refine AWp.seq ?_
        refine AWp.reg1 {} hT (fun A hA => by cbv) (Nat.zero_le _) ?_
        try dsimp only [AExit.then, AExit.block]
        obtain rfl := hno' (by rw [hatz]; simp)
        repeat refine AWp.seq ?_
        refine AWp.ret ⟨?_, rfl, rfl, Nat.zero_le _, _, rfl⟩
        rfl
      · rw [show decide (0 ≤ t) = true by simp; omega, show decide (t ≤ m - 1) = true by simp; omega] at hatz
        obtain ⟨X2, hX2⟩ : ∃ X2, (l.take z.toNat).map I = X2 := ⟨_, rfl⟩
        have hX2' : X.take z.toNat = X2 := by rw [← hX2, ← hX, List.map_take]
        have hsub : ∀ A : Ar, A = Ar.std → A.sub X 0 z = X2 := fun A hA => by subst hA; rw [← hX2']; simp [Ar.std]
        have hX2n : (X2.length : Int) = z := by rw [← hX2]; simp; omega
        repeat refine AWp.seq ?_
        refine AWp.reg1 {} hT (fun A hA => by
            have f0 := ar_nlt hA t0
            have f1 := ar_nle hA tm
            repeat (cbv; simp only [f0, f1])
            cbv) (Nat.zero_le _) ?_
        try dsimp only [AExit.then, AExit.block]
        repeat refine AWp.seq ?_
        refine AWp.cond (b := false) rfl (AWp.skip ?_)
        try dsimp only [AExit.then, AExit.block]
        repeat refine AWp.seq ?_
        refine AWp.reg1 {} hT (fun A hA => by
            have f0 := hsub A hA
            have f1 := ar_len hA X2 z hX2n
            have f2 := ar_len hA X n hn
            have f3 := ar_le hA h0
            have f4 := ar_le hA h1
            have f5 := ar_le hA (Int.le_refl 0)
            repeat (cbv; simp only [f0, f1, f2, f3, f4, f5])
            cbv) (Nat.zero_le _) ?_
        try dsimp only [AExit.then, AExit.block]
        refine AWp.block (AWp.loopInv (ι := Int) (fun y => 0 ≤ y ∧ y ≤ z ∧ ∀ r ∈ l.take y.toNat, r ≠ t) (fun y => (z - y).toNat) [0, 1, 6, 9, 10, 11, 25, 26, 27]
          (fun y => { env := [(0, AI m), (1, .d (.list 1 X)), (6, AI t), (9, .d (.list 1 X)), (10, AI n), (11, AI z), (25, .d (.list 1 X2)), (26, AI z), (27, AI y)], heap := [], n := 40 }) 0 (by cbv) ⟨Int.le_refl _, by omega, by simp⟩ ?_)
        rintro y ⟨g0, g1, g2⟩
        by_cases hy : y < z
        · obtain ⟨u, hu⟩ : ∃ s, l[y.toNat]? = some s := ⟨_, List.getElem?_eq_getElem (by omega)⟩
          have hLy : X2[y.toNat]? = some (I u) := by rw [← hX2', List.getElem?_take_of_lt (by omega), ← hX, List.getElem?_map, hu]; rfl
          obtain ⟨y1, hy1⟩ : ∃ z1, y + 1 = z1 := ⟨_, rfl⟩
          repeat refine AWp.seq ?_
          refine AWp.reg1 {} hT (fun A hA => by
              have f0 := ar_lt hA hy
              repeat (cbv; simp only [f0])
              cbv) (Nat.zero_le _) ?_
          try dsimp only [AExit.then, AExit.block]
          repeat refine AWp.seq ?_
          refine AWp.cond (b := true) rfl (AWp.skip ?_)
          try dsimp only [AExit.then, AExit.block]
          repeat refine AWp.seq ?_
          refine AWp.block ?_
          repeat refine AWp.seq ?_
          refine AWp.reg1 {} hT (fun A hA => by
              have f0 := ar_get hA hLy
              have f1 := ar_le hA g0
              repeat (cbv; simp only [f0, f1])
              cbv) (Nat.zero_le _) ?_
          try dsimp only [AExit.then, AExit.block]
          by_cases eu : t = u
          · repeat refine AWp.seq ?_
            refine AWp.reg1 {} hT (fun A hA => by
                have f0 := ar_eq hA eu
                repeat (cbv; simp only [f0])
                cbv) (Nat.zero_le _) ?_
            try dsimp only [AExit.then, AExit.block]
            repeat refine AWp.seq ?_
            refine AWp.cond (b := true) rfl ?_
            rw [if_pos rfl]
            repeat refine AWp.seq ?_
            refine AWp.reg1 {} hT (fun A hA => by cbv) (Nat.zero_le _) ?_
            try dsimp only [AExit.then, AExit.block]
            have hmem : (l.take z.toNat).contains t = true := by
              rw [List.contains_eq_mem, decide_eq_true_eq, eu]
              exact List.mem_of_getElem? (i := y.toNat) (by rw [List.getElem?_take_of_lt (by omega)]; exact hu)
            obtain rfl := hno' (by rw [hatz, hmem]; rfl)
            repeat refine AWp.seq ?_
            refine AWp.ret ⟨?_, rfl, rfl, Nat.zero_le _, _, rfl⟩
            rfl
          · repeat refine AWp.seq ?_
            refine AWp.reg1 {} hT (fun A hA => by
                have f0 := ar_ne hA eu
                repeat (cbv; simp only [f0])
                cbv) (Nat.zero_le _) ?_
            try dsimp only [AExit.then, AExit.block]
            repeat refine AWp.seq ?_
            refine AWp.cond (b := false) rfl (AWp.skip ?_)
            try dsimp only [AExit.then, AExit.block]
            repeat refine AWp.seq ?_
            refine AWp.reg1 {} hT (fun A hA => by
                have f0 := ar_add hA y 1 y1 hy1 (by omega) (by omega)
                repeat (cbv; simp only [f0])
                cbv) (Nat.zero_le _) ?_
            try dsimp only [AExit.then, AExit.block]
            refine ⟨y1, ⟨by omega, by omega, ?_⟩, by omega, by cbv⟩
            intro r hr
            rw [show y1.toNat = y.toNat + 1 by omega, List.take_add_one, hu] at hr
            simp only [Option.toList_some, List.mem_append, List.mem_singleton] at hr
            rcases hr with hr | rfl
            · exact g2 r hr
            · exact fun e => eu e.symm
        · repeat refine AWp.seq ?_
          refine AWp.reg1 {} hT (fun A hA => by
              have f0 := ar_nlt hA hy
              repeat (cbv; simp only [f0])
              cbv) (Nat.zero_le _) ?_
          try dsimp only [AExit.then, AExit.block]
          repeat refine AWp.seq ?_
          refine AWp.cond (b := false) rfl (AWp.exit ?_)
          try dsimp only [AExit.then, AExit.block]
          rw [if_pos rfl]
          repeat refine AWp.seq ?_
          refine AWp.reg1 {} hT (fun A hA => by
              have f0 := ar_add hA z 1 z1 hz1 (by omega) (by omega)
              repeat (cbv; simp only [f0])
              cbv) (Nat.zero_le _) ?_
          try dsimp only [AExit.then, AExit.block]
          refine ⟨z1, ⟨by omega, by omega, fun i hi => ?_⟩, by omega, by cbv⟩
          rcases Nat.lt_or_ge i z.toNat with h | h
          · exact h2 i h
          · have hmem : (l.take z.toNat).contains t = false := by
              rw [List.contains_eq_mem, decide_eq_false_iff_not]
              intro hm'
              exact g2 t (by rw [show y.toNat = z.toNat by omega]; exact hm') rfl
            rw [show i = z.toNat by omega, hatz, hmem]; rfl
  · rw [List.all_eq_true.2 (fun i hi => h2 i (by have := List.mem_range.1 hi; omega)), Bool.true_and] at hF
    have heq : ∀ A : Ar, A = Ar.std → A.zeq n m = F := fun A hA => by
      subst hA; rw [← hF]
      show decide (n = m) = decide (l.length = n0)
      by_cases e : n = m
      · rw [decide_eq_true e, decide_eq_true (by omega)]
      · rw [decide_eq_false e, decide_eq_false (by omega)]
    repeat refine AWp.seq ?_
    refine AWp.reg1 {} hT (fun A hA => by
        have f0 := ar_nlt hA hz
        repeat (cbv; simp only [f0])
        cbv) (Nat.zero_le _) ?_
    try dsimp only [AExit.then, AExit.block]
    repeat refine AWp.seq ?_
    refine AWp.cond (b := false) rfl (AWp.exit ?_)
    try dsimp only [AExit.then, AExit.block]
    rw [if_pos rfl]
    repeat refine AWp.seq ?_
    refine AWp.reg1 {} hT (fun A hA => by
        have f0 := ar_len hA X n hn
        have f1 := heq A hA
        repeat (cbv; simp only [f0, f1])
        cbv) (Nat.zero_le _) ?_
    try dsimp only [AExit.then, AExit.block]
    repeat refine AWp.seq ?_
    refine AWp.ret ⟨?_, rfl, rfl, Nat.zero_le _, _, rfl⟩
    rfl
def renamed (x : List (List Acc)) (l : List Int) : List (List Acc) := l.map fun n => x.getD n.toNat []
def renT (x : List (List Acc)) (l : List Int) : List (List Acc) × Int := if valid x then (if threadsB x.length l then (renamed x l, 0) else ([], 2)) else ([], 90)
theorem Renamed_ok (x : List (List Acc)) (l : List Int) (hx : Big x) (hl : l.length ≤ 9223372036854775807) : ACall P 48 [.d (dX x), .d (.list 1 (l.map I))] [] (.tuple [.d (.list 1 ((renT x l).1.map dAccs)), AI (renT x l).2]) [] := by
  have cv := valid_ok x hx
  unfold renT
  cases hv : valid x with
  | false =>
    rw [hv] at cv
    simp only [Bool.false_eq_true, if_false, List.map_nil]
    obtain ⟨X, hX⟩ : ∃ X, dX x = X := ⟨_, rfl⟩
    obtain ⟨L, hL⟩ : ∃ X, l.map I = X := ⟨_, rfl⟩
    rw [hX] at cv ⊢
    rw [hL]
    refine ACall.enter hT (fn := Try.f48) Try.func48 rfl (by decide) (by simp [Try.f48]) rfl rfl rfl rfl (Nat.le_refl _) ?_
    repeat refine AWp.seq ?_
    refine AWp.reg1 {} hT (fun A hA => by cbv) (Nat.zero_le _) ?_
    try dsimp only [AExit.then, AExit.block]
    repeat refine AWp.seq ?_
    refine AWp.block ?_
    repeat refine AWp.seq ?_
    refine AWp.region ?_
    refine AOps.stepCall hT (an := {}) (fun A hA => by cbv) (Nat.zero_le _) rfl (.inr rfl) rfl rfl rfl (Nat.le_of_ble_eq_true rfl) rfl rfl (cv) ?_
    refine AOps.done hT (an := {}) (fun A hA => by cbv) (Nat.zero_le _) ?_
    try dsimp only [AExit.then, AExit.block]
    repeat refine AWp.seq ?_
    refine AWp.cond (b := true) rfl ?_
    rw [if_pos rfl]
    repeat refine AWp.seq ?_
    refine AWp.reg1 {} hT (fun A hA => by cbv) (Nat.zero_le _) ?_
    try dsimp only [AExit.then, AExit.block]
    repeat refine AWp.seq ?_
    refine AWp.ret ⟨?_, rfl, rfl, Nat.zero_le _, _, rfl⟩
    rfl
  | true =>
    have hsm := valid_small hv
    have hs := hsm.1
    rw [hv] at cv
    simp only [if_true]
    have hat : ∀ i, thAt x.length l i = ((decide (0 ≤ l.getD i 0) && decide (l.getD i 0 ≤ (x.length : Int) - 1)) && !(l.take i).contains (l.getD i 0)) := fun i => rfl
    obtain ⟨F, hF⟩ : ∃ F, threadsB x.length l = F := ⟨_, rfl⟩
    rw [hF]
    unfold threadsB at hF
    obtain ⟨at_, hat'⟩ : ∃ f, thAt x.length l = f := ⟨_, rfl⟩
    rw [hat'] at hat hF
    unfold dX at *
    obtain ⟨X, hX⟩ : ∃ X, x.map dAccs = X := ⟨_, rfl⟩
    obtain ⟨m, hm⟩ : ∃ n : Int, (X.length : Int) = n := ⟨_, rfl⟩
    have hxm : (x.length : Int) = m := by rw [← hm, ← hX]; simp
    obtain ⟨L, hL⟩ : ∃ X, l.map I = X := ⟨_, rfl⟩
    obtain ⟨n, hn⟩ : ∃ n : Int, (L.length : Int) = n := ⟨_, rfl⟩
    have hln : (l.length : Int) = n := by rw [← hn, ← hL]; simp
    rw [hX] at cv
    rw [hX, hL]
    rw [hxm] at hat
    by_cases hnm : n = m
    · rw [show decide (l.length = x.length) = true by simp; omega, Bool.and_true] at hF
      have hno : ∀ i, i < l.length → at_ i = false → F = false := fun i hi h => by
        rw [← hF, List.all_eq_false]; exact ⟨i, by simpa using hi, by rw [h]; decide⟩
      obtain ⟨m1, hm1⟩ : ∃ z1, m - 1 = z1 := ⟨_, rfl⟩
      rw [hm1] at hat
      refine ACall.enter hT (fn := Try.f48) Try.func48 rfl (by decide) (by simp [Try.f48]) rfl rfl (by cases F <;> rfl) rfl (Nat.le_refl _) ?_
      repeat refine AWp.seq ?_
      refine AWp.reg1 {} hT (fun A hA => by cbv) (Nat.zero_le _) ?_
      try dsimp only [AExit.then, AExit.block]
      repeat refine AWp.seq ?_
      refine AWp.block ?_
      repeat refine AWp.seq ?_
      refine AWp.region ?_
      refine AOps.stepCall hT (an := {}) (fun A hA => by cbv) (Nat.zero_le _) rfl (.inr rfl) rfl rfl rfl (Nat.le_of_ble_eq_true rfl) rfl rfl (cv) ?_
      refine AOps.done hT (an := {}) (fun A hA => by cbv) (Nat.zero_le _) ?_
      try dsimp only [AExit.then, AExit.block]
      refine AWp.cond (b := false) rfl ?_
      rw [if_neg Bool.false_ne_true]
      repeat refine AWp.seq ?_
      refine AWp.reg1 {} hT (fun A hA => by
          have f0 := ar_len hA L n hn
          have f1 := ar_len hA X m hm
          have f2 := ar_eq hA hnm
          repeat (cbv; simp only [f0, f1, f2])
          cbv) (Nat.zero_le _) ?_
      try dsimp only [AExit.then, AExit.block]
      repeat refine AWp.seq ?_
      refine AWp.cond (b := false) rfl (AWp.skip ?_)
      try dsimp only [AExit.then, AExit.block]
      repeat refine AWp.seq ?_
      refine AWp.reg1 {tk := [6]} hT (fun A hA => by cbv) (Nat.zero_le _) ?_
      try dsimp only [AExit.then, AExit.block]
      repeat refine AWp.seq ?_
      refine AWp.reg1 {} hT (fun A hA => by
          have f0 := ar_len hA L n hn
          repeat (cbv; simp only [f0])
          cbv) (Nat.zero_le _) ?_
      try dsimp only [AExit.then, AExit.block]
      refine AWp.block (AWp.loopInv (ι := Int × List D) (fun p => 0 ≤ p.1 ∧ p.1 ≤ n ∧ p.2 = (renamed x (l.take p.1.toNat)).map dAccs ∧ ∀ i, i < p.1.toNat → at_ i = true) (fun p => (n - p.1).toNat) [0, 1, 6, 19, 20, 21]
        (fun p => { env := [(0, .d (.list 1 X)), (1, .d (.list 1 L)), (6, .own 1 p.2), (19, .d (.list 1 L)), (20, AI n), (21, AI p.1)], heap := [], n := 49 }) (0, []) (by cbv) ⟨Int.le_refl _, by dsimp only; omega, by simp [renamed], by simp⟩ ?_)
      rintro ⟨z, O⟩ ⟨h0, h1, h2, h3⟩
      dsimp only at *
      by_cases hz : z < n
      · obtain ⟨z1, hz1⟩ : ∃ z1, z + 1 = z1 := ⟨_, rfl⟩
        obtain ⟨t, ht⟩ : ∃ s, l[z.toNat]? = some s := ⟨_, List.getElem?_eq_getElem (by omega)⟩
        have hLz : L[z.toNat]? = some (I t) := by rw [← hL, List.getElem?_map, ht]; rfl
        obtain ⟨tt, htt⟩ : ∃ p, l.getD z.toNat 0 = p := ⟨_, rfl⟩
        have htt' : tt = t := by rw [← htt, List.getD_eq_getElem?_getD, ht]; rfl
        have hatz := hat z.toNat
        rw [htt, htt'] at hatz
        have hno' := hno z.toNat (by omega)
        have cb := between_ok 0 t m1
        obtain ⟨in_, hin_⟩ : ∃ b, (decide (0 ≤ t) && decide (t ≤ m1)) = b := ⟨_, rfl⟩
        rw [hin_] at cb hatz
        obtain ⟨X2, hX2⟩ : ∃ X2, (l.take z.toNat).map I = X2 := ⟨_, rfl⟩
        have hX2' : L.take z.toNat = X2 := by rw [← hX2, ← hL, List.map_take]
        have hsub : ∀ A : Ar, A = Ar.std → A.sub L 0 z = X2 := fun A hA => by subst hA; rw [← hX2']; simp [Ar.std]
        have cc := contains_int_ok (l.take z.toNat) t (by rw [List.length_take]; omega)
        rw [hX2] at cc
        obtain ⟨was, hwas⟩ : ∃ b, (l.take z.toNat).contains t = b := ⟨_, rfl⟩
        rw [hwas] at cc hatz
        repeat refine AWp.seq ?_
        refine AWp.reg1 {} hT (fun A hA => by
            have f0 := ar_lt hA hz
            repeat (cbv; simp only [f0])
            cbv) (Nat.zero_le _) ?_
        try dsimp only [AExit.then, AExit.block]
        repeat refine AWp.seq ?_
        refine AWp.cond (b := true) rfl (AWp.skip ?_)
        try dsimp only [AExit.then, AExit.block]
        repeat refine AWp.seq ?_
        refine AWp.block ?_
        repeat refine AWp.seq ?_
        refine AWp.reg1 {} hT (fun A hA => by
            have f0 := ar_get hA hLz
            have f1 := ar_le hA h0
            repeat (cbv; simp only [f0, f1])
            cbv) (Nat.zero_le _) ?_
        try dsimp only [AExit.then, AExit.block]
        cases in_ with
        | false =>
          repeat refine AWp.seq ?_
          refine AWp.region ?_
          refine AOps.stepCall hT (an := {}) (fun A hA => by
              have f0 := ar_len hA X m hm
              have f1 := ar_sub hA m 1 m1 hm1 (by omega) (by omega)
              repeat (cbv; simp only [f0, f1])
              cbv) (Nat.zero_le _) rfl (.inr rfl) rfl rfl rfl (Nat.le_of_ble_eq_true rfl) rfl rfl (cb) ?_
          refine AOps.done hT (an := {}) (fun A hA => by cbv) (Nat.zero_le _) ?_
          try dsimp only [AExit.then, AExit.block]
          repeat refine AWp.seq ?_
          refine AWp.cond (b := true) rfl ?_
          rw [if_pos rfl]
          repeat refine AWp.seq ?_
          refine AWp.reg1 {} hT (fun A hA => by cbv) (Nat.zero_le _) ?_
          try dsimp only [AExit.then, AExit.block]
          obtain rfl := hno' (by rw [hatz]; rfl)
          repeat refine AWp.seq ?_
          refine AWp.ret ⟨?_, rfl, rfl, Nat.zero_le _, _, rfl⟩
          rfl
        | true =>
          rw [Bool.and_eq_true, decide_eq_true_eq, decide_eq_true_eq] at hin_
          cases was with
          | true =>
            repeat refine AWp.seq ?_
            refine AWp.region ?_
            refine AOps.stepCall hT (an := {}) (fun A hA => by
                have f0 := ar_len hA X m hm
                have f1 := ar_sub hA m 1 m1 hm1 (by omega) (by omega)
                repeat (cbv; simp only [f0, f1])
                cbv) (Nat.zero_le _) rfl (.inr rfl) rfl rfl rfl (Nat.le_of_ble_eq_true rfl) rfl rfl (cb) ?_
            refine AOps.stepCall hT (an := {}) (fun A hA => by
                have f0 := hsub A hA
                have f1 := ar_len hA L n hn
                have f2 := ar_le hA h0
                have f3 := ar_le hA h1
                have f4 := ar_le hA (Int.le_refl 0)
                repeat (cbv; simp only [f0, f1, f2, f3, f4])
                cbv) (Nat.zero_le _) rfl (.inr rfl) rfl rfl rfl (Nat.le_of_ble_eq_true rfl) rfl rfl (cc) ?_
            refine AOps.done hT (an := {}) (fun A hA => by cbv) (Nat.zero_le _) ?_
            try dsimp only [AExit.then, AExit.block]
            repeat refine AWp.seq ?_
            refine AWp.cond (b := true) rfl ?_
            rw [if_pos rfl]
            repeat refine AWp.seq ?_
            refine AWp.reg1 {} hT (fun A hA => by cbv) (Nat.zero_le _) ?_
            try dsimp only [AExit.then, AExit.block]
            obtain rfl := hno' (by rw [hatz]; rfl)
            repeat refine AWp.seq ?_
            refine AWp.ret ⟨?_, rfl, rfl, Nat.zero_le _, _, rfl⟩
            rfl
          | false =>
            obtain ⟨R, hR⟩ : ∃ s, x[t.toNat]? = some s := ⟨_, List.getElem?_eq_getElem (by omega)⟩
            have hR1 := hsm.2 R (List.mem_of_getElem? hR)
            have hXt : X[t.toNat]? = some (dAccs R) := by rw [← hX, List.getElem?_map, hR]; rfl
            have ccl := clone_ok R hR1
            unfold dAccs at hXt ccl
            obtain ⟨R', hR'⟩ : ∃ s, R.map dAcc = s := ⟨_, rfl⟩
            rw [hR'] at hXt ccl
            obtain ⟨O1, hO1⟩ : ∃ l3, O ++ [.list 2 R'] = l3 := ⟨_, rfl⟩
            have hOl : O.length ≤ 1000000 := by rw [h2]; unfold renamed; simp; omega
            have hstep : O1 = (renamed x (l.take z1.toNat)).map dAccs := by
              rw [show z1.toNat = z.toNat + 1 by omega, List.take_add_one, ht]
              unfold renamed at h2 ⊢
              rw [List.map_append, List.map_append, ← h2, ← hO1, ← hR']
              simp only [Option.toList_some, List.map_cons, List.map_nil, List.getD_eq_getElem?_getD, hR]
              rfl
            repeat refine AWp.seq ?_
            refine AWp.region ?_
            refine AOps.stepCall hT (an := {}) (fun A hA => by
                have f0 := ar_len hA X m hm
                have f1 := ar_sub hA m 1 m1 hm1 (by omega) (by omega)
                repeat (cbv; simp only [f0, f1])
                cbv) (Nat.zero_le _) rfl (.inr rfl) rfl rfl rfl (Nat.le_of_ble_eq_true rfl) rfl rfl (cb) ?_
            refine AOps.stepCall hT (an := {}) (fun A hA => by
                have f0 := hsub A hA
                have f1 := ar_len hA L n hn
                have f2 := ar_le hA h0
                have f3 := ar_le hA h1
                have f4 := ar_le hA (Int.le_refl 0)
                repeat (cbv; simp only [f0, f1, f2, f3, f4])
                cbv) (Nat.zero_le _) rfl (.inr rfl) rfl rfl rfl (Nat.le_of_ble_eq_true rfl) rfl rfl (cc) ?_
            refine AOps.done hT (an := {}) (fun A hA => by cbv) (Nat.zero_le _) ?_
            try dsimp only [AExit.then, AExit.block]
            repeat refine AWp.seq ?_
            refine AWp.cond (b := false) rfl (AWp.skip ?_)
            try dsimp only [AExit.then, AExit.block]
            repeat refine AWp.seq ?_
            refine AWp.region ?_
            refine AOps.stepCall hT (an := {tk := [6, 39, 46]}) (fun A hA => by
                have f0 := ar_get hA hXt
                have f1 := ar_le hA hin_.1
                repeat (cbv; simp only [f0, f1])
                cbv) (Nat.zero_le _) rfl (.inr rfl) rfl rfl rfl (Nat.le_of_ble_eq_true rfl) rfl rfl (ccl) ?_
            refine AOps.done hT (an := {tk := [6, 39, 46]}) (fun A hA => by
                have f0 := ar_app hA _ _ _ hO1
                have f1 := ar_fits hA O [.list 2 R'] (by simp; omega)
                repeat (cbv; simp only [f0, f1])
                cbv) (Nat.zero_le _) ?_
            try dsimp only [AExit.then, AExit.block]
            repeat refine AWp.seq ?_
            refine AWp.reg1 {} hT (fun A hA => by
                have f0 := ar_add hA z 1 z1 hz1 (by omega) (by omega)
                repeat (cbv; simp only [f0])
                cbv) (Nat.zero_le _) ?_
            try dsimp only [AExit.then, AExit.block]
            refine ⟨(z1, O1), ⟨by dsimp only; omega, by dsimp only; omega, hstep, fun i hi => ?_⟩, by dsimp only; omega, by cbv⟩
            dsimp only at hi
            rcases Nat.lt_or_ge i z.toNat with h | h
            · exact h3 i h
            · rw [show i = z.toNat by omega, hatz]; rfl
      · rw [List.all_eq_true.2 (fun i hi => h3 i (by have := List.mem_range.1 hi; omega))] at hF
        subst hF
        rw [List.take_of_length_le (by omega)] at h2
        simp only [if_true]
        rw [← h2]
        repeat refine AWp.seq ?_
        refine AWp.reg1 {} hT (fun A hA => by
            have f0 := ar_nlt hA hz
            repeat (cbv; simp only [f0])
            cbv) (Nat.zero_le _) ?_
        try dsimp only [AExit.then, AExit.block]
        repeat refine AWp.seq ?_
        refine AWp.cond (b := false) rfl (AWp.exit ?_)
        try dsimp only [AExit.then, AExit.block]
        rw [if_pos rfl]
        repeat refine AWp.seq ?_
        refine AWp.reg1 {} hT (fun A hA => by cbv) (Nat.zero_le _) ?_
        try dsimp only [AExit.then, AExit.block]
        repeat refine AWp.seq ?_
        refine AWp.ret ⟨?_, rfl, rfl, Nat.zero_le _, _, rfl⟩
        rfl
    · rw [show decide (l.length = x.length) = false by simp; omega, Bool.and_false] at hF
      subst hF
      simp only [Bool.false_eq_true, if_false, List.map_nil]
      refine ACall.enter hT (fn := Try.f48) Try.func48 rfl (by decide) (by simp [Try.f48]) rfl rfl rfl rfl (Nat.le_refl _) ?_
      repeat refine AWp.seq ?_
      refine AWp.reg1 {} hT (fun A hA => by cbv) (Nat.zero_le _) ?_
      try dsimp only [AExit.then, AExit.block]
      repeat refine AWp.seq ?_
      refine AWp.block ?_
      repeat refine AWp.seq ?_
      refine AWp.region ?_
      refine AOps.stepCall hT (an := {}) (fun A hA => by cbv) (Nat.zero_le _) rfl (.inr rfl) rfl rfl rfl (Nat.le_of_ble_eq_true rfl) rfl rfl (cv) ?_
      refine AOps.done hT (an := {}) (fun A hA => by cbv) (Nat.zero_le _) ?_
      try dsimp only [AExit.then, AExit.block]
      refine AWp.cond (b := false) rfl ?_
      rw [if_neg Bool.false_ne_true]
      repeat refine AWp.seq ?_
      refine AWp.reg1 {} hT (fun A hA => by
          have f0 := ar_len hA L n hn
          have f1 := ar_len hA X m hm
          have f2 := ar_ne hA hnm
          repeat (cbv; simp only [f0, f1, f2])
          cbv) (Nat.zero_le _) ?_
      try dsimp only [AExit.then, AExit.block]
      repeat refine AWp.seq ?_
      refine AWp.cond (b := true) rfl ?_
      rw [if_pos rfl]
      repeat refine AWp.seq ?_
      refine AWp.reg1 {} hT (fun A hA => by cbv) (Nat.zero_le _) ?_
      try dsimp only [AExit.then, AExit.block]
      repeat refine AWp.seq ?_
      refine AWp.ret ⟨?_, rfl, rfl, Nat.zero_le _, _, rfl⟩
      rfl
end Go.Am
