/- Own text: D1xa, D1u, D1xb. -/
import Derived.Test.YtalfdjihejohoaaD1fx
import Derived.Test.YtalfdjihejohoaaD1c2
set_option maxRecDepth 100000
set_option linter.unusedVariables false
set_option linter.unusedSimpArgs false
namespace Go.Am
open Go Go.Proofs

/-! The document's circles. -/
def okAt (x : List (List Acc)) (l : List Sta) (i : Nat) : Bool :=
  there x (l.getD i (0, 0, 0)).1 (l.getD i (0, 0, 0)).2.1 && (decide ((l.getD i (0, 0, 0)).2.1 = (l.getD i (0, 0, 0)).2.2) || isPair x (l.getD i (0, 0, 0))) && (l.take i).all fun r => !decide (r.1 = (l.getD i (0, 0, 0)).1)
def cfAt (x : List (List Acc)) (l : List Sta) (i : Nat) : Bool :=
  conflict x (l.getD i (0, 0, 0)).1 (l.getD i (0, 0, 0)).2.2 (l.getD ((i + 1) % l.length) (0, 0, 0)).1 (l.getD ((i + 1) % l.length) (0, 0, 0)).2.1
def isCircR (x : List (List Acc)) (l : List Sta) : Bool :=
  decide (2 ≤ l.length) && decide (l.length ≤ 3) && (List.range l.length).all (okAt x l) && (List.range l.length).all (cfAt x l) && l.any fun s => !decide (s.2.1 = s.2.2)
theorem okAt_there {x : List (List Acc)} {l : List Sta} {i : Nat} (h : okAt x l i = true) : there x (l.getD i (0, 0, 0)).1 (l.getD i (0, 0, 0)).2.1 = true ∧ there x (l.getD i (0, 0, 0)).1 (l.getD i (0, 0, 0)).2.2 = true := by
  unfold okAt at h
  simp only [Bool.and_eq_true, Bool.or_eq_true, decide_eq_true_eq] at h
  refine ⟨h.1.1, ?_⟩
  rcases h.1.2 with e | e
  · rw [← e]; exact h.1.1
  · exact ((isPair_iff x _).1 e).2.2.1

theorem isCircR_ok (x : List (List Acc)) (l : List Sta) (hx : Small x) (hl : l.length ≤ 9223372036854775807) : ACall P 81 [.d (dX x), .d (.list 3 (l.map dSta))] [] (AB (isCircR x l)) [] := by
  have cacc := fun t a => isAccess_ok x t a hx
  have cpr := fun t a b => isPairR_ok x t a b hx
  have ccf := fun t a u b h h' => conflictR_ok x t a u b h h'
  obtain ⟨F, hF⟩ : ∃ F, isCircR x l = F := ⟨_, rfl⟩
  rw [hF]
  unfold isCircR at hF
  obtain ⟨X, hX⟩ : ∃ X, dX x = X := ⟨_, rfl⟩
  obtain ⟨L, hL⟩ : ∃ L, l.map dSta = L := ⟨_, rfl⟩
  obtain ⟨n, hn⟩ : ∃ n : Int, (L.length : Int) = n := ⟨_, rfl⟩
  have hln : (l.length : Int) = n := by rw [← hn, ← hL]; simp
  simp only [hX] at cacc cpr ccf
  rw [hX, hL]
  by_cases h2 : n < 2
  · rw [show decide (2 ≤ l.length) = false by simp; omega] at hF
    simp only [Bool.false_and] at hF
    subst hF
    refine ACall.enter hT (fn := Try.f81) Try.func81 rfl (by decide) (by simp [Try.f81]) rfl rfl rfl rfl (Nat.le_refl _) ?_
    repeat refine AWp.seq ?_
    refine AWp.reg1 {} hT (fun A hA => by cbv) (Nat.zero_le _) ?_
    try dsimp only [AExit.then, AExit.block]
    repeat refine AWp.seq ?_
    refine AWp.reg1 {} hT (fun A hA => by
        have f0 := ar_len hA L n hn
        have f1 := ar_lt hA h2
        repeat (cbv; simp only [f0, f1])
        cbv) (Nat.zero_le _) ?_
    try dsimp only [AExit.then, AExit.block]
    repeat refine AWp.seq ?_
    refine AWp.cond (b := true) rfl ?_
    rw [if_pos rfl]
    repeat refine AWp.seq ?_
    refine AWp.reg1 {} hT (fun A hA => by cbv) (Nat.zero_le _) ?_
    try dsimp only [AExit.then, AExit.block]
    repeat refine AWp.seq ?_
    refine AWp.ret ⟨?_, rfl, rfl, Nat.zero_le _, _, rfl⟩
    rfl
  by_cases h3 : 3 < n
  · rw [show decide (l.length ≤ 3) = false by simp; omega] at hF
    simp only [Bool.and_false, Bool.false_and] at hF
    subst hF
    refine ACall.enter hT (fn := Try.f81) Try.func81 rfl (by decide) (by simp [Try.f81]) rfl rfl rfl rfl (Nat.le_refl _) ?_
    repeat refine AWp.seq ?_
    refine AWp.reg1 {} hT (fun A hA => by cbv) (Nat.zero_le _) ?_
    try dsimp only [AExit.then, AExit.block]
    repeat refine AWp.seq ?_
    refine AWp.reg1 {} hT (fun A hA => by
        have f0 := ar_len hA L n hn
        have f1 := ar_nlt hA h2
        have f2 := ar_lt hA h3
        repeat (cbv; simp only [f0, f1, f2])
        cbv) (Nat.zero_le _) ?_
    try dsimp only [AExit.then, AExit.block]
    repeat refine AWp.seq ?_
    refine AWp.cond (b := true) rfl ?_
    rw [if_pos rfl]
    repeat refine AWp.seq ?_
    refine AWp.reg1 {} hT (fun A hA => by cbv) (Nat.zero_le _) ?_
    try dsimp only [AExit.then, AExit.block]
    repeat refine AWp.seq ?_
    refine AWp.ret ⟨?_, rfl, rfl, Nat.zero_le _, _, rfl⟩
    rfl
  rw [show decide (2 ≤ l.length) = true by simp; omega, show decide (l.length ≤ 3) = true by simp; omega] at hF
  simp only [Bool.true_and] at hF
  have hno : ∀ i, i < l.length → okAt x l i = false → F = false := fun i hi h => by
    rw [← hF, List.all_eq_false.2 ⟨i, by simpa using hi, by rw [h]; decide⟩]; rfl
  have hnc : ∀ i, i < l.length → cfAt x l i = false → F = false := fun i hi h => by
    rw [← hF, List.all_eq_false (p := cfAt x l) |>.2 ⟨i, by simpa using hi, by rw [h]; decide⟩]; simp
  have hok : ∀ i, okAt x l i = (there x (l.getD i (0, 0, 0)).1 (l.getD i (0, 0, 0)).2.1 && (decide ((l.getD i (0, 0, 0)).2.1 = (l.getD i (0, 0, 0)).2.2) || isPair x (l.getD i (0, 0, 0))) && (l.take i).all fun r => !decide (r.1 = (l.getD i (0, 0, 0)).1)) := fun i => rfl
  have hcf : ∀ i, cfAt x l i = conflict x (l.getD i (0, 0, 0)).1 (l.getD i (0, 0, 0)).2.2 (l.getD ((i + 1) % l.length) (0, 0, 0)).1 (l.getD ((i + 1) % l.length) (0, 0, 0)).2.1 := fun i => rfl
  have hth : ∀ i, okAt x l i = true → _ := fun i h => okAt_there h
  obtain ⟨ok, hok'⟩ : ∃ f, okAt x l = f := ⟨_, rfl⟩
  obtain ⟨cf, hcf'⟩ : ∃ f, cfAt x l = f := ⟨_, rfl⟩
  rw [hok', hcf'] at hF
  rw [hok'] at hno hok hth
  rw [hcf'] at hnc hcf
  refine ACall.enter hT (fn := Try.f81) Try.func81 rfl (by decide) (by simp [Try.f81]) rfl rfl rfl rfl (Nat.le_refl _) ?_
  repeat refine AWp.seq ?_
  refine AWp.reg1 {} hT (fun A hA => by cbv) (Nat.zero_le _) ?_
  try dsimp only [AExit.then, AExit.block]
  repeat refine AWp.seq ?_
  refine AWp.reg1 {} hT (fun A hA => by
      have f0 := ar_len hA L n hn
      have f1 := ar_nlt hA h2
      have f2 := ar_nlt hA h3
      repeat (cbv; simp only [f0, f1, f2])
      cbv) (Nat.zero_le _) ?_
  try dsimp only [AExit.then, AExit.block]
  repeat refine AWp.seq ?_
  refine AWp.cond (b := false) rfl (AWp.skip ?_)
  try dsimp only [AExit.then, AExit.block]
  repeat refine AWp.seq ?_
  refine AWp.reg1 {} hT (fun A hA => by cbv) (Nat.zero_le _) ?_
  try dsimp only [AExit.then, AExit.block]
  repeat refine AWp.seq ?_
  refine AWp.reg1 {} hT (fun A hA => by
      have f0 := ar_len hA L n hn
      repeat (cbv; simp only [f0])
      cbv) (Nat.zero_le _) ?_
  try dsimp only [AExit.then, AExit.block]
  refine AWp.block (AWp.loopInv (ι := Int × Bool) (fun p => 0 ≤ p.1 ∧ p.1 ≤ n ∧ (∀ i, i < p.1.toNat → ok i = true) ∧ p.2 = (l.take p.1.toNat).any fun s => !decide (s.2.1 = s.2.2)) (fun p => (n - p.1).toNat) [0, 1, 5, 21, 22, 23]
    (fun p => { env := [(0, .d X), (1, .d (.list 3 L)), (5, AB p.2), (21, .d (.list 3 L)), (22, AI n), (23, AI p.1)], heap := [], n := 99 }) (0, false) (by cbv) ⟨Int.le_refl _, by dsimp only; omega, by simp, by simp⟩ ?_)
  rintro ⟨z, sm⟩ ⟨h0, h1, hc, hp⟩
  dsimp only at *
  by_cases hz : z < n
  · obtain ⟨⟨t, a, b⟩, hs⟩ : ∃ s, l[z.toNat]? = some s := ⟨_, List.getElem?_eq_getElem (by omega)⟩
    have hLz : L[z.toNat]? = some (.agg [I t, I a, I b]) := by rw [← hL, List.getElem?_map, hs]; rfl
    obtain ⟨z1, hz1⟩ : ∃ z1, z + 1 = z1 := ⟨_, rfl⟩
    have hz1n : z1.toNat = z.toNat + 1 := by omega
    have hokz := hok z.toNat
    rw [List.getD_eq_getElem?_getD, hs] at hokz
    simp only [Option.getD_some] at hokz
    have hno' := hno z.toNat (by omega)
    have c1 := cacc t a
    have c2 := cpr t a b
    obtain ⟨th, hth'⟩ : ∃ th, there x t a = th := ⟨_, rfl⟩
    obtain ⟨pr, hpr⟩ : ∃ th, isPair x (t, a, b) = th := ⟨_, rfl⟩
    rw [hth'] at c1 hokz
    rw [hpr] at c2 hokz
    have hnext : l.take z1.toNat = l.take z.toNat ++ [(t, a, b)] := by rw [hz1n, List.take_add_one, hs]; rfl
    repeat refine AWp.seq ?_
    refine AWp.reg1 {} hT (fun A hA => by
        have f0 := ar_lt hA hz
        repeat (cbv; simp only [f0])
        cbv) (Nat.zero_le _) ?_
    try dsimp only [AExit.then, AExit.block]
    repeat refine AWp.seq ?_
    refine AWp.cond (b := true) rfl (AWp.skip ?_)
    try dsimp only [AExit.then, AExit.block]
    repeat refine AWp.seq ?_
    refine AWp.block ?_
    repeat refine AWp.seq ?_
    refine AWp.reg1 {} hT (fun A hA => by
        have f0 := ar_get hA hLz
        have f1 := ar_le hA h0
        repeat (cbv; simp only [f0, f1])
        cbv) (Nat.zero_le _) ?_
    try dsimp only [AExit.then, AExit.block]
    cases th with
    | false =>
      repeat refine AWp.seq ?_
      refine AWp.region ?_
      refine AOps.stepCall hT (an := {}) (fun A hA => by cbv) (Nat.zero_le _) rfl (.inr rfl) rfl rfl rfl (Nat.le_of_ble_eq_true rfl) rfl rfl (c1) ?_
      refine AOps.done hT (an := {}) (fun A hA => by cbv) (Nat.zero_le _) ?_
      try dsimp only [AExit.then, AExit.block]
      repeat refine AWp.seq ?_
      refine AWp.cond (b := true) rfl ?_
      rw [if_pos rfl]
      repeat refine AWp.seq ?_
      refine AWp.reg1 {} hT (fun A hA => by cbv) (Nat.zero_le _) ?_
      try dsimp only [AExit.then, AExit.block]
      repeat refine AWp.seq ?_
      refine AWp.ret ⟨?_, rfl, rfl, Nat.zero_le _, _, rfl⟩
      rw [hno' (by rw [hokz]; rfl)]; rfl
    | true =>
      -- the rest of the round, once the station is one
      refine AWp.cut (fun σ' => (decide (a = b) || pr) = true ∧ σ'.keep [0, 1, 5, 6, 7, 21, 22, 23] = { env := [(0, .d X), (1, .d (.list 3 L)), (5, AB sm), (6, AI z), (7, .lbox [AI t, AI a, AI b]), (21, .d (.list 3 L)), (22, AI n), (23, AI z)], heap := [], n := 99 }) ?_ ?_
      · by_cases e : a = b
        · repeat refine AWp.seq ?_
          refine AWp.region ?_
          refine AOps.stepCall hT (an := {}) (fun A hA => by cbv) (Nat.zero_le _) rfl (.inr rfl) rfl rfl rfl (Nat.le_of_ble_eq_true rfl) rfl rfl (c1) ?_
          refine AOps.done hT (an := {}) (fun A hA => by
              have f0 := ar_eq hA e
              repeat (cbv; simp only [f0])
              cbv) (Nat.zero_le _) ?_
          try dsimp only [AExit.then, AExit.block]
          repeat refine AWp.seq ?_
          refine AWp.cond (b := false) rfl (AWp.skip ?_)
          try dsimp only [AExit.then, AExit.block]
          exact ⟨by simp [e], by cbv⟩
        · repeat refine AWp.seq ?_
          refine AWp.region ?_
          refine AOps.stepCall hT (an := {}) (fun A hA => by cbv) (Nat.zero_le _) rfl (.inr rfl) rfl rfl rfl (Nat.le_of_ble_eq_true rfl) rfl rfl (c1) ?_
          refine AOps.stepCall hT (an := {}) (fun A hA => by
              have f0 := ar_ne hA e
              repeat (cbv; simp only [f0])
              cbv) (Nat.zero_le _) rfl (.inr rfl) rfl rfl rfl (Nat.le_of_ble_eq_true rfl) rfl rfl (c2) ?_
          refine AOps.done hT (an := {}) (fun A hA => by cbv) (Nat.zero_le _) ?_
          try dsimp only [AExit.then, AExit.block]
          cases pr with
          | true =>
            repeat refine AWp.seq ?_
            refine AWp.cond (b := false) rfl (AWp.skip ?_)
            try dsimp only [AExit.then, AExit.block]
            exact ⟨by simp, by cbv⟩
          | false =>
            repeat refine AWp.seq ?_
            refine AWp.cond (b := true) rfl ?_
            rw [if_pos rfl]
            repeat refine AWp.seq ?_
            refine AWp.reg1 {} hT (fun A hA => by cbv) (Nat.zero_le _) ?_
            try dsimp only [AExit.then, AExit.block]
            repeat refine AWp.seq ?_
            refine AWp.ret ⟨?_, rfl, rfl, Nat.zero_le _, _, rfl⟩
            rw [hno' (by rw [hokz]; simp [e])]; rfl
      · rintro σ1 ⟨hor, hσ1⟩
        refine AWp.keep [0, 1, 5, 6, 7, 21, 22, 23] ?_
        rw [hσ1]
        obtain ⟨e, he⟩ : ∃ e, decide (a = b) = e := ⟨_, rfl⟩
        have heq : ∀ A : Ar, A = Ar.std → A.zeq a b = e := fun A hA => by subst hA; exact he
        obtain ⟨sm1, hsm1⟩ : ∃ s1, (sm || !e) = s1 := ⟨_, rfl⟩
        have hany : sm1 = (l.take z1.toNat).any fun s => !decide (s.2.1 = s.2.2) := by rw [hnext, List.any_append, ← hp, ← hsm1, ← he]; simp
        obtain ⟨L2, hL2⟩ : ∃ L2, (l.take z.toNat).map dSta = L2 := ⟨_, rfl⟩
        have hL2' : L.take z.toNat = L2 := by rw [← hL2, ← hL, List.map_take]
        have hsub : ∀ A : Ar, A = Ar.std → A.sub L 0 z = L2 := fun A hA => by subst hA; rw [← hL2']; simp [Ar.std]
        have hL2n : (L2.length : Int) = z := by rw [← hL2]; simp; omega
        refine AWp.cut (fun σ' => σ'.keep [0, 1, 5, 6, 7, 21, 22, 23] = { env := [(0, .d X), (1, .d (.list 3 L)), (5, AB sm1), (6, AI z), (7, .lbox [AI t, AI a, AI b]), (21, .d (.list 3 L)), (22, AI n), (23, AI z)], heap := [], n := 99 }) ?_ ?_
        · cases sm with
          | true =>
            obtain rfl : sm1 = true := by rw [← hsm1]; rfl
            repeat refine AWp.seq ?_
            refine AWp.reg1 {} hT (fun A hA => by cbv) (Nat.zero_le _) ?_
            try dsimp only [AExit.then, AExit.block]
            cbv
          | false =>
            obtain rfl : sm1 = !e := by rw [← hsm1]; rfl
            repeat refine AWp.seq ?_
            refine AWp.reg1 {} hT (fun A hA => by
                have f0 := heq A hA
                repeat (cbv; simp only [f0])
                cbv) (Nat.zero_le _) ?_
            try dsimp only [AExit.then, AExit.block]
            cbv
        rintro σ2 hσ2
        refine AWp.keep [0, 1, 5, 6, 7, 21, 22, 23] ?_
        rw [hσ2]
        repeat refine AWp.seq ?_
        refine AWp.reg1 {} hT (fun A hA => by
            have f0 := hsub A hA
            have f1 := ar_len hA L2 z hL2n
            have f2 := ar_len hA L n hn
            have f3 := ar_le hA h0
            have f4 := ar_le hA h1
            have f5 := ar_le hA (Int.le_refl 0)
            repeat (cbv; simp only [f0, f1, f2, f3, f4, f5])
            cbv) (Nat.zero_le _) ?_
        try dsimp only [AExit.then, AExit.block]
        refine AWp.block (AWp.loopInv (ι := Int) (fun y => 0 ≤ y ∧ y ≤ z ∧ ∀ r ∈ l.take y.toNat, decide (r.1 = t) = false) (fun y => (z - y).toNat) [0, 1, 5, 6, 7, 21, 22, 23, 58, 59, 60]
          (fun y => { env := [(0, .d X), (1, .d (.list 3 L)), (5, AB sm1), (6, AI z), (7, .lbox [AI t, AI a, AI b]), (21, .d (.list 3 L)), (22, AI n), (23, AI z), (58, .d (.list 3 L2)), (59, AI z), (60, AI y)], heap := [], n := 99 }) 0 (by cbv) ⟨Int.le_refl _, by omega, by simp⟩ ?_)
        rintro y ⟨g0, g1, g2⟩
        by_cases hy : y < z
        · obtain ⟨⟨u, c, d⟩, hu⟩ : ∃ s, l[y.toNat]? = some s := ⟨_, List.getElem?_eq_getElem (by omega)⟩
          have hLy : L2[y.toNat]? = some (.agg [I u, I c, I d]) := by rw [← hL2', List.getElem?_take_of_lt (by omega), ← hL, List.getElem?_map, hu]; rfl
          obtain ⟨y1, hy1⟩ : ∃ z1, y + 1 = z1 := ⟨_, rfl⟩
          repeat refine AWp.seq ?_
          refine AWp.reg1 {} hT (fun A hA => by
              have f0 := ar_lt hA hy
              repeat (cbv; simp only [f0])
              cbv) (Nat.zero_le _) ?_
          try dsimp only [AExit.then, AExit.block]
          repeat refine AWp.seq ?_
          refine AWp.cond (b := true) rfl (AWp.skip ?_)
          try dsimp only [AExit.then, AExit.block]
          repeat refine AWp.seq ?_
          refine AWp.block ?_
          repeat refine AWp.seq ?_
          refine AWp.reg1 {} hT (fun A hA => by
              have f0 := ar_get hA hLy
              have f1 := ar_le hA g0
              repeat (cbv; simp only [f0, f1])
              cbv) (Nat.zero_le _) ?_
          try dsimp only [AExit.then, AExit.block]
          by_cases eu : u = t
          · repeat refine AWp.seq ?_
            refine AWp.reg1 {} hT (fun A hA => by
                have f0 := ar_eq hA eu
                repeat (cbv; simp only [f0])
                cbv) (Nat.zero_le _) ?_
            try dsimp only [AExit.then, AExit.block]
            repeat refine AWp.seq ?_
            refine AWp.cond (b := true) rfl ?_
            rw [if_pos rfl]
            repeat refine AWp.seq ?_
            refine AWp.reg1 {} hT (fun A hA => by cbv) (Nat.zero_le _) ?_
            try dsimp only [AExit.then, AExit.block]
            repeat refine AWp.seq ?_
            refine AWp.ret ⟨?_, rfl, rfl, Nat.zero_le _, _, rfl⟩
            have : (l.take z.toNat).all (fun r => !decide (r.1 = t)) = false := by
              rw [List.all_eq_false]
              refine ⟨(u, c, d), ?_, by simp [eu]⟩
              exact List.mem_of_getElem? (i := y.toNat) (by rw [List.getElem?_take_of_lt (by omega)]; exact hu)
            rw [hno' (by rw [hokz, this]; simp)]; rfl
          · repeat refine AWp.seq ?_
            refine AWp.reg1 {} hT (fun A hA => by
                have f0 := ar_ne hA eu
                repeat (cbv; simp only [f0])
                cbv) (Nat.zero_le _) ?_
            try dsimp only [AExit.then, AExit.block]
            repeat refine AWp.seq ?_
            refine AWp.cond (b := false) rfl (AWp.skip ?_)
            try dsimp only [AExit.then, AExit.block]
            repeat refine AWp.seq ?_
            refine AWp.reg1 {} hT (fun A hA => by
                have f0 := ar_add hA y 1 y1 hy1 (by omega) (by omega)
                repeat (cbv; simp only [f0])
                cbv) (Nat.zero_le _) ?_
            try dsimp only [AExit.then, AExit.block]
            refine ⟨y1, ⟨by omega, by omega, ?_⟩, by omega, by cbv⟩
            intro r hr
            rw [show y1.toNat = y.toNat + 1 by omega, List.take_add_one, hu] at hr
            simp only [Option.toList_some, List.mem_append, List.mem_singleton] at hr
            rcases hr with hr | rfl
            · exact g2 r hr
            · simp [eu]
        · repeat refine AWp.seq ?_
          refine AWp.reg1 {} hT (fun A hA => by
              have f0 := ar_nlt hA hy
              repeat (cbv; simp only [f0])
              cbv) (Nat.zero_le _) ?_
          try dsimp only [AExit.then, AExit.block]
          repeat refine AWp.seq ?_
          refine AWp.cond (b := false) rfl (AWp.exit ?_)
          try dsimp only [AExit.then, AExit.block]
          rw [if_pos rfl]
          repeat refine AWp.seq ?_
          refine AWp.reg1 {} hT (fun A hA => by
              have f0 := ar_add hA z 1 z1 hz1 (by omega) (by omega)
              repeat (cbv; simp only [f0])
              cbv) (Nat.zero_le _) ?_
          try dsimp only [AExit.then, AExit.block]
          refine ⟨(z1, sm1), ⟨by dsimp only; omega, by dsimp only; omega, fun i hi => ?_, hany⟩, by dsimp only; omega, by cbv⟩
          dsimp only at hi
          rcases Nat.lt_or_ge i z.toNat with h | h
          · exact hc i h
          · rw [show i = z.toNat by omega, hokz, hor, show z = y by omega]
            simp only [Bool.and_self, Bool.true_and, List.all_eq_true]
            intro r hr
            rw [g2 r hr]; rfl
  · have hzn : z = n := by omega
    subst hzn
    rw [List.take_of_length_le (by omega)] at hp
    rw [List.all_eq_true.2 (fun i hi => hc i (by have := List.mem_range.1 hi; omega)), Bool.true_and, ← hp] at hF
    repeat refine AWp.seq ?_
    refine AWp.reg1 {} hT (fun A hA => by
        have f0 := ar_nlt hA hz
        repeat (cbv; simp only [f0])
        cbv) (Nat.zero_le _) ?_
    try dsimp only [AExit.then, AExit.block]
    repeat refine AWp.seq ?_
    refine AWp.cond (b := false) rfl (AWp.exit ?_)
    try dsimp only [AExit.then, AExit.block]
    rw [if_pos rfl]
    repeat refine AWp.seq ?_
    refine AWp.reg1 {} hT (fun A hA => by
        have f0 := ar_len hA L z hn
        repeat (cbv; simp only [f0])
        cbv) (Nat.zero_le _) ?_
    try dsimp only [AExit.then, AExit.block]
    refine AWp.block (AWp.loopInv (ι := Int) (fun y => 0 ≤ y ∧ y ≤ z ∧ ∀ i, i < y.toNat → cf i = true) (fun y => (z - y).toNat) [0, 1, 5, 71, 72, 73]
      (fun y => { env := [(0, .d X), (1, .d (.list 3 L)), (5, AB sm), (71, .d (.list 3 L)), (72, AI z), (73, AI y)], heap := [], n := 99 }) 0 (by cbv) ⟨Int.le_refl _, by omega, by simp⟩ ?_)
    rintro y ⟨g0, g1, g2⟩
    by_cases hy : y < z
    · obtain ⟨⟨t, a, b⟩, hs⟩ : ∃ s, l[y.toNat]? = some s := ⟨_, List.getElem?_eq_getElem (by omega)⟩
      have hLz : L[y.toNat]? = some (.agg [I t, I a, I b]) := by rw [← hL, List.getElem?_map, hs]; rfl
      obtain ⟨y1, hy1⟩ : ∃ z1, y + 1 = z1 := ⟨_, rfl⟩
      obtain ⟨q, hq⟩ : ∃ q, y1.tmod z = q := ⟨_, rfl⟩
      have hq' : q = ((y1.toNat % l.length : Nat) : Int) := by
        rw [← hq, show y1 = (y1.toNat : Int) by omega, ← hln, Int.ofNat_tmod]; simp
      have hlpos : 0 < l.length := by omega
      have hqlt : q.toNat < l.length := by rw [hq']; have := Nat.mod_lt y1.toNat hlpos; omega
      have hq0 : 0 ≤ q := by omega
      obtain ⟨⟨t', a', b'⟩, hs'⟩ : ∃ s, l[q.toNat]? = some s := ⟨_, List.getElem?_eq_getElem hqlt⟩
      have hLq : L[q.toNat]? = some (.agg [I t', I a', I b']) := by rw [← hL, List.getElem?_map, hs']; rfl
      have hat := hcf y.toNat
      rw [show y.toNat + 1 = y1.toNat by omega, show y1.toNat % l.length = q.toNat by omega, List.getD_eq_getElem?_getD, hs, List.getD_eq_getElem?_getD, hs'] at hat
      simp only [Option.getD_some] at hat
      have k1 := (hth y.toNat (hc _ (by omega))).2
      have k2 := (hth q.toNat (hc _ (by omega))).1
      rw [List.getD_eq_getElem?_getD, hs] at k1
      rw [List.getD_eq_getElem?_getD, hs'] at k2
      have c3 := ccf _ _ _ _ k1 k2
      simp only [Option.getD_some] at c3
      obtain ⟨r, hr⟩ : ∃ r, conflict x t b t' a' = r := ⟨_, rfl⟩
      rw [hr] at c3 hat
      have hrem : ∀ A : Ar, A = Ar.std → A.rem y1 z = q := fun A hA => by subst hA; exact hq
      have hnc' := hnc y.toNat (by omega)
      repeat refine AWp.seq ?_
      refine AWp.reg1 {} hT (fun A hA => by
          have f0 := ar_lt hA hy
          repeat (cbv; simp only [f0])
          cbv) (Nat.zero_le _) ?_
      try dsimp only [AExit.then, AExit.block]
      repeat refine AWp.seq ?_
      refine AWp.cond (b := true) rfl (AWp.skip ?_)
      try dsimp only [AExit.then, AExit.block]
      repeat refine AWp.seq ?_
      refine AWp.block ?_
      repeat refine AWp.seq ?_
      refine AWp.reg1 {} hT (fun A hA => by
          have f0 := ar_get hA hLz
          have f1 := ar_le hA g0
          repeat (cbv; simp only [f0, f1])
          cbv) (Nat.zero_le _) ?_
      try dsimp only [AExit.then, AExit.block]
      repeat refine AWp.seq ?_
      refine AWp.reg1 {} hT (fun A hA => by
          have f0 := ar_add hA y 1 y1 hy1 (by omega) (by omega)
          have f1 := ar_len hA L z hn
          have f2 := ar_ne hA (show ¬ z = 0 by omega)
          have f3 := hrem A hA
          have f4 := ar_get hA hLq
          have f5 := ar_le hA hq0
          repeat (cbv; simp only [f0, f1, f2, f3, f4, f5])
          cbv) (Nat.zero_le _) ?_
      try dsimp only [AExit.then, AExit.block]
      repeat refine AWp.seq ?_
      refine AWp.region ?_
      refine AOps.stepCall hT (an := {}) (fun A hA => by cbv) (Nat.zero_le _) rfl (.inr rfl) rfl rfl rfl (Nat.le_of_ble_eq_true rfl) rfl rfl (c3) ?_
      refine AOps.done hT (an := {}) (fun A hA => by cbv) (Nat.zero_le _) ?_
      try dsimp only [AExit.then, AExit.block]
      cases r with
      | false =>
        repeat refine AWp.seq ?_
        refine AWp.cond (b := true) rfl ?_
        rw [if_pos rfl]
        repeat refine AWp.seq ?_
        refine AWp.reg1 {} hT (fun A hA => by cbv) (Nat.zero_le _) ?_
        try dsimp only [AExit.then, AExit.block]
        repeat refine AWp.seq ?_
        refine AWp.ret ⟨?_, rfl, rfl, Nat.zero_le _, _, rfl⟩
        rw [hnc' hat]; rfl
      | true =>
        repeat refine AWp.seq ?_
        refine AWp.cond (b := false) rfl (AWp.skip ?_)
        try dsimp only [AExit.then, AExit.block]
        repeat refine AWp.seq ?_
        refine AWp.reg1 {} hT (fun A hA => by
            have f0 := ar_add hA y 1 y1 hy1 (by omega) (by omega)
            repeat (cbv; simp only [f0])
            cbv) (Nat.zero_le _) ?_
        try dsimp only [AExit.then, AExit.block]
        refine ⟨y1, ⟨by omega, by omega, fun i hi => ?_⟩, by omega, by cbv⟩
        rcases Nat.lt_or_ge i y.toNat with h | h
        · exact g2 i h
        · rw [show i = y.toNat by omega, hat]
    · repeat refine AWp.seq ?_
      refine AWp.reg1 {} hT (fun A hA => by
          have f0 := ar_nlt hA hy
          repeat (cbv; simp only [f0])
          cbv) (Nat.zero_le _) ?_
      try dsimp only [AExit.then, AExit.block]
      repeat refine AWp.seq ?_
      refine AWp.cond (b := false) rfl (AWp.exit ?_)
      try dsimp only [AExit.then, AExit.block]
      rw [if_pos rfl]
      repeat refine AWp.seq ?_
      refine AWp.reg1 {} hT (fun A hA => by cbv) (Nat.zero_le _) ?_
      try dsimp only [AExit.then, AExit.block]
      repeat refine AWp.seq ?_
      refine AWp.ret ⟨?_, rfl, rfl, Nat.zero_le _, _, rfl⟩
      rw [List.all_eq_true.2 (fun i hi => g2 i (by have := List.mem_range.1 hi; omega)), Bool.true_and] at hF
      rw [hF]; rfl
end Go.Am

set_option maxRecDepth 100000
set_option linter.unusedVariables false
set_option linter.unusedSimpArgs false
namespace Go.Am
open Go Go.Proofs

/-- The stations of the document. -/
def stRB (x : List (List Acc)) (t a n : Nat) : List Sta := ((List.range n).filter fun (b : Nat) => (decide (a = b) || isPair x ((t : Int), (a : Int), (b : Int)))).map fun (b : Nat) => ((t : Int), (a : Int), (b : Int))
def stRA (x : List (List Acc)) (t n m : Nat) : List Sta := (List.range m).flatMap fun a => stRB x t a n
def stRT (x : List (List Acc)) (n : Nat) : List Sta := (List.range n).flatMap fun t => stRA x t (x.getD t []).length (x.getD t []).length
def stationsR (x : List (List Acc)) : List Sta := stRT x x.length
theorem stRB_succ (x : List (List Acc)) (t a n : Nat) : stRB x t a (n + 1) = stRB x t a n ++ if (decide (a = n) || isPair x ((t : Int), (a : Int), (n : Int))) then [((t : Int), (a : Int), (n : Int))] else [] := by
  unfold stRB
  rw [List.range_succ, List.filter_append, List.map_append]
  congr 1
  simp only [List.filter_cons, List.filter_nil]
  split <;> rfl

theorem stationsR_ok (x : List (List Acc)) (hx : Small x) : ACall P 74 [.d (dX x)] [] (.own 3 ((stationsR x).map dSta)) [] := by
  have cp := fun t a b => isPairR_ok x t a b hx
  unfold dX at *
  obtain ⟨X, hX⟩ : ∃ X, x.map dAccs = X := ⟨_, rfl⟩
  obtain ⟨n, hn⟩ : ∃ n : Int, (X.length : Int) = n := ⟨_, rfl⟩
  have hxl : (x.length : Int) = n := by rw [← hn, ← hX]; simp
  have hs := hx.1
  rw [hX] at cp ⊢
  have hS : ∀ m, stRT x (m + 1) = stRT x m ++ stRA x m (x.getD m []).length (x.getD m []).length := fun m => flatMap_range_succ _ _
  have hSA : ∀ t n m, stRA x t n (m + 1) = stRA x t n m ++ stRB x t m n := fun t n m => flatMap_range_succ _ _
  refine ACall.enter hT (fn := Try.f74) Try.func74 rfl (by decide) (by simp [Try.f74]) rfl rfl rfl rfl (Nat.le_refl _) ?_
  repeat refine AWp.seq ?_
  refine AWp.reg1 {tk := [3]} hT (fun A hA => by cbv) (Nat.zero_le _) ?_
  try dsimp only [AExit.then, AExit.block]
  repeat refine AWp.seq ?_
  refine AWp.reg1 {tk := [3]} hT (fun A hA => by cbv) (Nat.zero_le _) ?_
  try dsimp only [AExit.then, AExit.block]
  repeat refine AWp.seq ?_
  refine AWp.reg1 {} hT (fun A hA => by
      have f0 := ar_len hA X n hn
      repeat (cbv; simp only [f0])
      cbv) (Nat.zero_le _) ?_
  try dsimp only [AExit.then, AExit.block]
  refine AWp.block (AWp.loopInv (ι := Int × List D) (fun p => 0 ≤ p.1 ∧ p.1 ≤ n ∧ p.2 = (stRT x p.1.toNat).map dSta ∧ p.2.length ≤ p.1 * 1000000) (fun p => (n - p.1).toNat) [0, 3, 9, 10, 11]
    (fun p => { env := [(0, .d (.list 1 X)), (3, .own 3 p.2), (9, .d (.list 1 X)), (10, AI n), (11, AI p.1)], heap := [], n := 46 }) (0, []) (by cbv) ⟨Int.le_refl _, by dsimp only; omega, rfl, by simp⟩ ?_)
  rintro ⟨z, l⟩ ⟨h0, h1, hl, hlen⟩
  dsimp only at *
  by_cases hz : z < n
  · obtain ⟨L, hL⟩ : ∃ L, x[z.toNat]? = some L := ⟨_, List.getElem?_eq_getElem (by omega)⟩
    obtain ⟨L', hL'⟩ : ∃ L', L.map dAcc = L' := ⟨_, rfl⟩
    obtain ⟨k, hk⟩ : ∃ n : Int, (L'.length : Int) = n := ⟨_, rfl⟩
    have hkL : (L.length : Int) = k := by rw [← hk, ← hL']; simp
    have hs2 := hx.2 L (List.mem_of_getElem? hL)
    have hXt : X[z.toNat]? = some (.list 2 L') := by rw [← hX, List.getElem?_map, hL, ← hL']; rfl
    obtain ⟨z1, hz1⟩ : ∃ z1, z + 1 = z1 := ⟨_, rfl⟩
    repeat refine AWp.seq ?_
    refine AWp.reg1 {} hT (fun A hA => by
        have f0 := ar_lt hA hz
        repeat (cbv; simp only [f0])
        cbv) (Nat.zero_le _) ?_
    try dsimp only [AExit.then, AExit.block]
    repeat refine AWp.seq ?_
    refine AWp.cond (b := true) rfl (AWp.skip ?_)
    try dsimp only [AExit.then, AExit.block]
    repeat refine AWp.seq ?_
    refine AWp.block ?_
    repeat refine AWp.seq ?_
    refine AWp.reg1 {} hT (fun A hA => by
        have f0 := ar_get hA hXt
        have f1 := ar_le hA h0
        repeat (cbv; simp only [f0, f1])
        cbv) (Nat.zero_le _) ?_
    try dsimp only [AExit.then, AExit.block]
    repeat refine AWp.seq ?_
    refine AWp.reg1 {} hT (fun A hA => by
        have f0 := ar_len hA L' k hk
        repeat (cbv; simp only [f0])
        cbv) (Nat.zero_le _) ?_
    try dsimp only [AExit.then, AExit.block]
    refine AWp.block (AWp.loopInv (ι := Int × List D) (fun p => 0 ≤ p.1 ∧ p.1 ≤ k ∧ p.2 = l ++ (stRA x z.toNat L.length p.1.toNat).map dSta ∧ p.2.length ≤ z * 1000000 + p.1 * 1000) (fun p => (k - p.1).toNat) [0, 3, 4, 5, 9, 10, 11, 17, 18]
      (fun p => { env := [(0, .d (.list 1 X)), (3, .own 3 p.2), (4, AI z), (5, .d (.list 2 L')), (9, .d (.list 1 X)), (10, AI n), (11, AI z), (17, AI k), (18, AI p.1)], heap := [], n := 46 }) (0, l) (by cbv) ⟨Int.le_refl _, by dsimp only; omega, by simp [stRA], by simpa using hlen⟩ ?_)
    rintro ⟨y, l1⟩ ⟨g0, g1, gl, glen⟩
    dsimp only at *
    by_cases hy : y < k
    · obtain ⟨y1, hy1⟩ : ∃ z1, y + 1 = z1 := ⟨_, rfl⟩
      repeat refine AWp.seq ?_
      refine AWp.reg1 {} hT (fun A hA => by
          have f0 := ar_lt hA hy
          repeat (cbv; simp only [f0])
          cbv) (Nat.zero_le _) ?_
      try dsimp only [AExit.then, AExit.block]
      repeat refine AWp.seq ?_
      refine AWp.cond (b := true) rfl (AWp.skip ?_)
      try dsimp only [AExit.then, AExit.block]
      repeat refine AWp.seq ?_
      refine AWp.block ?_
      repeat refine AWp.seq ?_
      refine AWp.reg1 {} hT (fun A hA => by cbv) (Nat.zero_le _) ?_
      try dsimp only [AExit.then, AExit.block]
      repeat refine AWp.seq ?_
      refine AWp.reg1 {} hT (fun A hA => by
          have f0 := ar_len hA L' k hk
          repeat (cbv; simp only [f0])
          cbv) (Nat.zero_le _) ?_
      try dsimp only [AExit.then, AExit.block]
      refine AWp.block (AWp.loopInv (ι := Int × List D) (fun p => 0 ≤ p.1 ∧ p.1 ≤ k ∧ p.2 = l1 ++ (stRB x z.toNat y.toNat p.1.toNat).map dSta ∧ p.2.length ≤ z * 1000000 + y * 1000 + p.1) (fun p => (k - p.1).toNat) [0, 3, 4, 5, 6, 9, 10, 11, 17, 18, 22, 23]
        (fun p => { env := [(0, .d (.list 1 X)), (3, .own 3 p.2), (4, AI z), (5, .d (.list 2 L')), (6, AI y), (9, .d (.list 1 X)), (10, AI n), (11, AI z), (17, AI k), (18, AI y), (22, AI k), (23, AI p.1)], heap := [], n := 46 }) (0, l1) (by cbv) ⟨Int.le_refl _, by dsimp only; omega, by simp [stRB], by dsimp only; omega⟩ ?_)
      rintro ⟨v, l2⟩ ⟨e0, e1, el, elen⟩
      dsimp only at *
      by_cases hv : v < k
      · obtain ⟨v1, hv1⟩ : ∃ z1, v + 1 = z1 := ⟨_, rfl⟩
        obtain ⟨l3, hl3⟩ : ∃ l3, l2 ++ [.agg [I z, I y, I v]] = l3 := ⟨_, rfl⟩
        have hstep := stRB_succ x z.toNat y.toNat v.toNat
        rw [show (z.toNat : Int) = z by omega, show (y.toNat : Int) = y by omega, show (v.toNat : Int) = v by omega, show v.toNat + 1 = v1.toNat by omega] at hstep
        have hcp := cp z y v
        obtain ⟨r, hr⟩ : ∃ r, isPair x (z, y, v) = r := ⟨_, rfl⟩
        rw [hr] at hcp hstep
        have grow : l3.length ≤ z * 1000000 + y * 1000 + v1 := by rw [← hl3]; simp; omega
        have hyes : stRB x z.toNat y.toNat v1.toNat = stRB x z.toNat y.toNat v.toNat ++ [(z, y, v)] → l3 = l1 ++ (stRB x z.toNat y.toNat v1.toNat).map dSta := fun h => by
          rw [h, List.map_append, ← List.append_assoc, ← el, ← hl3]; rfl
        repeat refine AWp.seq ?_
        refine AWp.reg1 {} hT (fun A hA => by
            have f0 := ar_lt hA hv
            repeat (cbv; simp only [f0])
            cbv) (Nat.zero_le _) ?_
        try dsimp only [AExit.then, AExit.block]
        repeat refine AWp.seq ?_
        refine AWp.cond (b := true) rfl (AWp.skip ?_)
        try dsimp only [AExit.then, AExit.block]
        repeat refine AWp.seq ?_
        refine AWp.block ?_
        repeat refine AWp.seq ?_
        refine AWp.reg1 {} hT (fun A hA => by cbv) (Nat.zero_le _) ?_
        try dsimp only [AExit.then, AExit.block]
        repeat refine AWp.seq ?_
        refine AWp.reg1 {} hT (fun A hA => by cbv) (Nat.zero_le _) ?_
        try dsimp only [AExit.then, AExit.block]
        by_cases e : y = v
        · rw [show decide (y.toNat = v.toNat) = true by simp; omega] at hstep
          repeat refine AWp.seq ?_
          refine AWp.reg1 {} hT (fun A hA => by
              have f0 := ar_eq hA e
              repeat (cbv; simp only [f0])
              cbv) (Nat.zero_le _) ?_
          try dsimp only [AExit.then, AExit.block]
          repeat refine AWp.seq ?_
          refine AWp.cond (b := true) rfl ?_
          rw [if_pos rfl]
          repeat refine AWp.seq ?_
          refine AWp.reg1 {tk := [3, 38, 41]} hT (fun A hA => by
              have f0 := ar_app hA _ _ _ hl3
              have f1 := ar_fits hA l2 [.agg [I z, I y, I v]] (by simp; omega)
              repeat (cbv; simp only [f0, f1])
              cbv) (Nat.zero_le _) ?_
          try dsimp only [AExit.then, AExit.block]
          repeat refine AWp.seq ?_
          refine AWp.reg1 {} hT (fun A hA => by
              have f0 := ar_add hA v 1 v1 hv1 (by omega) (by omega)
              repeat (cbv; simp only [f0])
              cbv) (Nat.zero_le _) ?_
          try dsimp only [AExit.then, AExit.block]
          refine ⟨(v1, l3), ⟨by dsimp only; omega, by dsimp only; omega, hyes (by rw [hstep]; simp), grow⟩, by dsimp only; omega, by cbv⟩
        · rw [show decide (y.toNat = v.toNat) = false by simp; omega] at hstep
          repeat refine AWp.seq ?_
          refine AWp.region ?_
          refine AOps.stepCall hT (an := {}) (fun A hA => by
              have f0 := ar_ne hA e
              repeat (cbv; simp only [f0])
              cbv) (Nat.zero_le _) rfl (.inr rfl) rfl rfl rfl (Nat.le_of_ble_eq_true rfl) rfl rfl (hcp) ?_
          refine AOps.done hT (an := {}) (fun A hA => by cbv) (Nat.zero_le _) ?_
          try dsimp only [AExit.then, AExit.block]
          cases r with
          | true =>
            repeat refine AWp.seq ?_
            refine AWp.cond (b := true) rfl ?_
            rw [if_pos rfl]
            repeat refine AWp.seq ?_
            refine AWp.reg1 {tk := [3, 38, 41]} hT (fun A hA => by
                have f0 := ar_app hA _ _ _ hl3
                have f1 := ar_fits hA l2 [.agg [I z, I y, I v]] (by simp; omega)
                repeat (cbv; simp only [f0, f1])
                cbv) (Nat.zero_le _) ?_
            try dsimp only [AExit.then, AExit.block]
            repeat refine AWp.seq ?_
            refine AWp.reg1 {} hT (fun A hA => by
                have f0 := ar_add hA v 1 v1 hv1 (by omega) (by omega)
                repeat (cbv; simp only [f0])
                cbv) (Nat.zero_le _) ?_
            try dsimp only [AExit.then, AExit.block]
            refine ⟨(v1, l3), ⟨by dsimp only; omega, by dsimp only; omega, hyes (by rw [hstep]; simp), grow⟩, by dsimp only; omega, by cbv⟩
          | false =>
            repeat refine AWp.seq ?_
            refine AWp.cond (b := false) rfl (AWp.skip ?_)
            try dsimp only [AExit.then, AExit.block]
            repeat refine AWp.seq ?_
            refine AWp.reg1 {} hT (fun A hA => by
                have f0 := ar_add hA v 1 v1 hv1 (by omega) (by omega)
                repeat (cbv; simp only [f0])
                cbv) (Nat.zero_le _) ?_
            try dsimp only [AExit.then, AExit.block]
            refine ⟨(v1, l2), ⟨by dsimp only; omega, by dsimp only; omega, by dsimp only; rw [hstep, el]; simp, by dsimp only; omega⟩, by dsimp only; omega, by cbv⟩
      · repeat refine AWp.seq ?_
        refine AWp.reg1 {} hT (fun A hA => by
            have f0 := ar_nlt hA hv
            repeat (cbv; simp only [f0])
            cbv) (Nat.zero_le _) ?_
        try dsimp only [AExit.then, AExit.block]
        repeat refine AWp.seq ?_
        refine AWp.cond (b := false) rfl (AWp.exit ?_)
        try dsimp only [AExit.then, AExit.block]
        rw [if_pos rfl]
        repeat refine AWp.seq ?_
        refine AWp.reg1 {} hT (fun A hA => by
            have f0 := ar_add hA y 1 y1 hy1 (by omega) (by omega)
            repeat (cbv; simp only [f0])
            cbv) (Nat.zero_le _) ?_
        try dsimp only [AExit.then, AExit.block]
        refine ⟨(y1, l2), ⟨by dsimp only; omega, by dsimp only; omega, ?_, by dsimp only; omega⟩, by dsimp only; omega, by cbv⟩
        dsimp only
        rw [show y1.toNat = y.toNat + 1 by omega, hSA, List.map_append, ← List.append_assoc, ← gl, el, show v.toNat = L.length by omega]
    · repeat refine AWp.seq ?_
      refine AWp.reg1 {} hT (fun A hA => by
          have f0 := ar_nlt hA hy
          repeat (cbv; simp only [f0])
          cbv) (Nat.zero_le _) ?_
      try dsimp only [AExit.then, AExit.block]
      repeat refine AWp.seq ?_
      refine AWp.cond (b := false) rfl (AWp.exit ?_)
      try dsimp only [AExit.then, AExit.block]
      rw [if_pos rfl]
      repeat refine AWp.seq ?_
      refine AWp.reg1 {} hT (fun A hA => by
          have f0 := ar_add hA z 1 z1 hz1 (by omega) (by omega)
          repeat (cbv; simp only [f0])
          cbv) (Nat.zero_le _) ?_
      try dsimp only [AExit.then, AExit.block]
      refine ⟨(z1, l1), ⟨by dsimp only; omega, by dsimp only; omega, ?_, by dsimp only; omega⟩, by dsimp only; omega, by cbv⟩
      dsimp only
      rw [show z1.toNat = z.toNat + 1 by omega, hS, List.map_append, ← hl, List.getD_eq_getElem?_getD, hL, gl, show y.toNat = L.length by omega]
      rfl
  · repeat refine AWp.seq ?_
    refine AWp.reg1 {} hT (fun A hA => by
        have f0 := ar_nlt hA hz
        repeat (cbv; simp only [f0])
        cbv) (Nat.zero_le _) ?_
    try dsimp only [AExit.then, AExit.block]
    repeat refine AWp.seq ?_
    refine AWp.cond (b := false) rfl (AWp.exit ?_)
    try dsimp only [AExit.then, AExit.block]
    rw [if_pos rfl]
    repeat refine AWp.seq ?_
    refine AWp.reg1 {tk := [3, 45]} hT (fun A hA => by cbv) (Nat.zero_le _) ?_
    try dsimp only [AExit.then, AExit.block]
    repeat refine AWp.seq ?_
    refine AWp.ret ⟨?_, rfl, rfl, Nat.zero_le _, _, rfl⟩
    rw [stationsR, show x.length = z.toNat by omega, ← hl]; rfl

theorem flatMap_lenR {α : Type} (g : Nat → List α) (B : Nat) : ∀ n, (∀ i, i < n → (g i).length ≤ B) → ((List.range n).flatMap g).length ≤ n * B
  | 0, _ => by simp
  | n + 1, h => by
    have h1 := flatMap_lenR g B n (fun i hi => h i (by omega))
    have h2 := h n (by omega)
    rw [flatMap_range_succ, List.length_append, Nat.succ_mul]
    omega
theorem stationsR_length {x : List (List Acc)} (hx : Small x) : (stationsR x).length ≤ 1000000000 := by
  have h1 : ∀ t a n, (stRB x t a n).length ≤ n := fun t a n => by
    unfold stRB
    rw [List.length_map]
    exact Nat.le_trans (List.length_filter_le _ _) (by simp)
  have h2 : ∀ t, (stRA x t (x.getD t []).length (x.getD t []).length).length ≤ 1000000 := fun t => by
    have := flatMap_lenR (fun a => stRB x t a (x.getD t []).length) 1000 (x.getD t []).length (fun a _ => Nat.le_trans (h1 _ _ _) (small_len hx t))
    have := small_len hx t
    unfold stRA; omega
  have h3 := flatMap_lenR (fun t => stRA x t (x.getD t []).length (x.getD t []).length) 1000000 x.length (fun t _ => h2 t)
  have := hx.1
  unfold stationsR stRT; omega

def pairsR (x : List (List Acc)) : List Sta := (stationsR x).filter fun s => decide (s.2.1 < s.2.2)
theorem PairsR_ok (x : List (List Acc)) (hx : Big x) (hsm : valid x = true → Small x) : ACall P 23 [.d (dX x)] [] (.tuple [.d (.list 3 (if valid x then (pairsR x).map dSta else [])), AI (if valid x then 0 else 90)]) [] := by
  have cv := validR_ok x hx
  cases hv : valid x with
  | false =>
    rw [hv] at cv
    obtain ⟨X, hX⟩ : ∃ X, dX x = X := ⟨_, rfl⟩
    rw [hX] at cv ⊢
    refine ACall.enter hT (fn := Try.f23) Try.func23 rfl (by decide) (by simp [Try.f23]) rfl rfl rfl rfl (Nat.le_refl _) ?_
    repeat refine AWp.seq ?_
    refine AWp.reg1 {} hT (fun A hA => by cbv) (Nat.zero_le _) ?_
    try dsimp only [AExit.then, AExit.block]
    repeat refine AWp.seq ?_
    refine AWp.region ?_
    refine AOps.stepCall hT (an := {}) (fun A hA => by cbv) (Nat.zero_le _) rfl (.inr rfl) rfl rfl rfl (Nat.le_of_ble_eq_true rfl) rfl rfl (cv) ?_
    refine AOps.done hT (an := {}) (fun A hA => by cbv) (Nat.zero_le _) ?_
    try dsimp only [AExit.then, AExit.block]
    repeat refine AWp.seq ?_
    refine AWp.cond (b := true) rfl ?_
    rw [if_pos rfl]
    repeat refine AWp.seq ?_
    refine AWp.reg1 {} hT (fun A hA => by cbv) (Nat.zero_le _) ?_
    try dsimp only [AExit.then, AExit.block]
    repeat refine AWp.seq ?_
    refine AWp.ret ⟨?_, rfl, rfl, Nat.zero_le _, _, rfl⟩
    rfl
  | true =>
    have hs := hsm hv
    rw [hv] at cv
    have cp := stationsR_ok x hs
    have hlen := stationsR_length hs
    unfold pairsR
    obtain ⟨l, hl⟩ : ∃ l, stationsR x = l := ⟨_, rfl⟩
    rw [hl] at cp hlen ⊢
    simp only [if_true]
    obtain ⟨X, hX⟩ : ∃ X, dX x = X := ⟨_, rfl⟩
    rw [hX] at cv cp ⊢
    obtain ⟨R, hR⟩ : ∃ R, l.map dSta = R := ⟨_, rfl⟩
    obtain ⟨n, hn⟩ : ∃ n : Int, (R.length : Int) = n := ⟨_, rfl⟩
    have hln : (l.length : Int) = n := by rw [← hn, ← hR]; simp
    rw [hR] at cp
    refine ACall.enter hT (fn := Try.f23) Try.func23 rfl (by decide) (by simp [Try.f23]) rfl rfl rfl rfl (Nat.le_refl _) ?_
    repeat refine AWp.seq ?_
    refine AWp.reg1 {} hT (fun A hA => by cbv) (Nat.zero_le _) ?_
    try dsimp only [AExit.then, AExit.block]
    repeat refine AWp.seq ?_
    refine AWp.region ?_
    refine AOps.stepCall hT (an := {}) (fun A hA => by cbv) (Nat.zero_le _) rfl (.inr rfl) rfl rfl rfl (Nat.le_of_ble_eq_true rfl) rfl rfl (cv) ?_
    refine AOps.done hT (an := {}) (fun A hA => by cbv) (Nat.zero_le _) ?_
    try dsimp only [AExit.then, AExit.block]
    repeat refine AWp.seq ?_
    refine AWp.cond (b := false) rfl (AWp.skip ?_)
    try dsimp only [AExit.then, AExit.block]
    repeat refine AWp.seq ?_
    refine AWp.reg1 {tk := [4]} hT (fun A hA => by cbv) (Nat.zero_le _) ?_
    try dsimp only [AExit.then, AExit.block]
    repeat refine AWp.seq ?_
    refine AWp.region ?_
    refine AOps.stepCall hT (an := {}) (fun A hA => by cbv) (Nat.zero_le _) rfl (.inr rfl) rfl rfl rfl (Nat.le_of_ble_eq_true rfl) rfl rfl (cp) ?_
    refine AOps.done hT (an := {}) (fun A hA => by
        have f0 := ar_len hA R n hn
        repeat (cbv; simp only [f0])
        cbv) (Nat.zero_le _) ?_
    try dsimp only [AExit.then, AExit.block]
    refine AWp.block (AWp.loopInv (ι := Int × List D) (fun p => 0 ≤ p.1 ∧ p.1 ≤ n ∧ p.2 = ((l.take p.1.toNat).filter fun s => decide (s.2.1 < s.2.2)).map dSta ∧ p.2.length ≤ p.1) (fun p => (n - p.1).toNat) [4, 11, 12, 13]
      (fun p => { env := [(4, .own 3 p.2), (11, .own 3 R), (12, AI n), (13, AI p.1)], heap := [], n := 28 }) (0, []) (by cbv) ⟨Int.le_refl _, by dsimp only; omega, by simp, by simp⟩ ?_)
    rintro ⟨z, L⟩ ⟨h0, h1, h2, h3⟩
    dsimp only at *
    by_cases hz : z < n
    · obtain ⟨z1, hz1⟩ : ∃ z1, z + 1 = z1 := ⟨_, rfl⟩
      obtain ⟨⟨a, b, c⟩, hs⟩ : ∃ s, l[z.toNat]? = some s := ⟨_, List.getElem?_eq_getElem (by omega)⟩
      have hXs : R[z.toNat]? = some (.agg [I a, I b, I c]) := by rw [← hR, List.getElem?_map, hs]; rfl
      obtain ⟨L1, hL1⟩ : ∃ l3, L ++ [.agg [I a, I b, I c]] = l3 := ⟨_, rfl⟩
      have hstep : l.take z1.toNat = l.take z.toNat ++ [(a, b, c)] := by rw [show z1.toNat = z.toNat + 1 by omega, List.take_add_one, hs]; rfl
      repeat refine AWp.seq ?_
      refine AWp.reg1 {} hT (fun A hA => by
          have f0 := ar_lt hA hz
          repeat (cbv; simp only [f0])
          cbv) (Nat.zero_le _) ?_
      try dsimp only [AExit.then, AExit.block]
      repeat refine AWp.seq ?_
      refine AWp.cond (b := true) rfl (AWp.skip ?_)
      try dsimp only [AExit.then, AExit.block]
      repeat refine AWp.seq ?_
      refine AWp.block ?_
      repeat refine AWp.seq ?_
      refine AWp.reg1 {} hT (fun A hA => by
          have f0 := ar_get hA hXs
          have f1 := ar_le hA h0
          repeat (cbv; simp only [f0, f1])
          cbv) (Nat.zero_le _) ?_
      try dsimp only [AExit.then, AExit.block]
      by_cases e : b < c
      · repeat refine AWp.seq ?_
        refine AWp.reg1 {} hT (fun A hA => by
            have f0 := ar_lt hA e
            repeat (cbv; simp only [f0])
            cbv) (Nat.zero_le _) ?_
        try dsimp only [AExit.then, AExit.block]
        repeat refine AWp.seq ?_
        refine AWp.cond (b := true) rfl ?_
        rw [if_pos rfl]
        repeat refine AWp.seq ?_
        refine AWp.reg1 {tk := [4, 22, 25]} hT (fun A hA => by
            have f0 := ar_app hA _ _ _ hL1
            have f1 := ar_fits hA L [.agg [I a, I b, I c]] (by simp; omega)
            repeat (cbv; simp only [f0, f1])
            cbv) (Nat.zero_le _) ?_
        try dsimp only [AExit.then, AExit.block]
        repeat refine AWp.seq ?_
        refine AWp.reg1 {} hT (fun A hA => by
            have f0 := ar_add hA z 1 z1 hz1 (by omega) (by omega)
            repeat (cbv; simp only [f0])
            cbv) (Nat.zero_le _) ?_
        try dsimp only [AExit.then, AExit.block]
        refine ⟨(z1, L1), ⟨by dsimp only; omega, by dsimp only; omega, ?_, by rw [← hL1]; simp; omega⟩, by dsimp only; omega, by cbv⟩
        dsimp only
        rw [hstep, List.filter_append, List.map_append, ← h2, ← hL1]
        simp [e, dSta]
      · repeat refine AWp.seq ?_
        refine AWp.reg1 {} hT (fun A hA => by
            have f0 := ar_nlt hA e
            repeat (cbv; simp only [f0])
            cbv) (Nat.zero_le _) ?_
        try dsimp only [AExit.then, AExit.block]
        repeat refine AWp.seq ?_
        refine AWp.cond (b := false) rfl (AWp.skip ?_)
        try dsimp only [AExit.then, AExit.block]
        repeat refine AWp.seq ?_
        refine AWp.reg1 {} hT (fun A hA => by
            have f0 := ar_add hA z 1 z1 hz1 (by omega) (by omega)
            repeat (cbv; simp only [f0])
            cbv) (Nat.zero_le _) ?_
        try dsimp only [AExit.then, AExit.block]
        refine ⟨(z1, L), ⟨by dsimp only; omega, by dsimp only; omega, ?_, by dsimp only; omega⟩, by dsimp only; omega, by cbv⟩
        dsimp only
        rw [hstep, List.filter_append, List.map_append, ← h2]
        simp [e]
    · repeat refine AWp.seq ?_
      refine AWp.reg1 {} hT (fun A hA => by
          have f0 := ar_nlt hA hz
          repeat (cbv; simp only [f0])
          cbv) (Nat.zero_le _) ?_
      try dsimp only [AExit.then, AExit.block]
      repeat refine AWp.seq ?_
      refine AWp.cond (b := false) rfl (AWp.exit ?_)
      try dsimp only [AExit.then, AExit.block]
      rw [if_pos rfl]
      repeat refine AWp.seq ?_
      refine AWp.reg1 {tk := [4, 27]} hT (fun A hA => by cbv) (Nat.zero_le _) ?_
      try dsimp only [AExit.then, AExit.block]
      repeat refine AWp.seq ?_
      refine AWp.ret ⟨?_, rfl, rfl, Nat.zero_le _, _, rfl⟩
      rw [h2, List.take_of_length_le (by omega)]; rfl
end Go.Am

set_option maxRecDepth 100000
set_option linter.unusedVariables false
set_option linter.unusedSimpArgs false
namespace Go.Am
open Go Go.Proofs

def dLs (l : List Sta) : D := .list 3 (l.map dSta)
def circ3R (x : List (List Acc)) (s q r : Sta) : List (List Sta) := if isCircR x [s, q, r] then [[s, q, r]] else []
def circ2R (x : List (List Acc)) (all : List Sta) (s q : Sta) : List (List Sta) :=
  if decide (s.1 = q.1) || !conflict x s.1 s.2.2 q.1 q.2.1 then [] else (if isCircR x [s, q] then [[s, q]] else []) ++ all.flatMap (circ3R x s q)
/-- The circles of the document. -/
def circlesR (x : List (List Acc)) : List (List Sta) := (stationsR x).flatMap fun s => (stationsR x).flatMap (circ2R x (stationsR x) s)
theorem flatMap_take_succ {α β : Type} (l : List α) (f : α → List β) (n : Nat) (a : α) (h : l[n]? = some a) : (l.take (n + 1)).flatMap f = (l.take n).flatMap f ++ f a := by
  rw [List.take_add_one, h, List.flatMap_append]; simp

theorem circlesR_ok (x : List (List Acc)) (hx : Small x) (hlen : (stationsR x).length ≤ 1000) (hth : ∀ s ∈ stationsR x, isThere x s = true) : ACall P 82 [.d (dX x)] [] (.own 1 ((circlesR x).map dLs)) [] := by
  have cst := stationsR_ok x hx
  have cic := fun (l : List Sta) (h : l.length ≤ 3) => isCircR_ok x l hx (by omega)
  have ccf := fun t a u b h h' => conflictR_ok x t a u b h h'
  have hth' : ∀ s ∈ stationsR x, there x s.1 s.2.1 = true ∧ there x s.1 s.2.2 = true := fun s hs => by
    have := hth s hs; unfold isThere at this; simpa using this
  unfold circlesR
  obtain ⟨all, hall⟩ : ∃ l, stationsR x = l := ⟨_, rfl⟩
  rw [hall] at cst hlen hth' ⊢
  obtain ⟨S, hS⟩ : ∃ S, all.map dSta = S := ⟨_, rfl⟩
  obtain ⟨n, hn⟩ : ∃ n : Int, (S.length : Int) = n := ⟨_, rfl⟩
  have hln : (all.length : Int) = n := by rw [← hn, ← hS]; simp
  obtain ⟨X, hX⟩ : ∃ X, dX x = X := ⟨_, rfl⟩
  simp only [hX] at cic ccf
  rw [hX, hS] at cst
  rw [hX]
  obtain ⟨G1, hG1⟩ : ∃ G : Sta → List (List Sta), (fun s => all.flatMap (circ2R x all s)) = G := ⟨_, rfl⟩
  have hg1 : ∀ s, G1 s = all.flatMap (circ2R x all s) := fun s => by rw [← hG1]
  rw [hG1]
  refine ACall.enter hT (fn := Try.f82) Try.func82 rfl (by decide) (by simp [Try.f82]) rfl rfl rfl rfl (Nat.le_refl _) ?_
  repeat refine AWp.seq ?_
  refine AWp.reg1 {tk := [2]} hT (fun A hA => by cbv) (Nat.zero_le _) ?_
  try dsimp only [AExit.then, AExit.block]
  repeat refine AWp.seq ?_
  refine AWp.reg1 {tk := [3]} hT (fun A hA => by cbv) (Nat.zero_le _) ?_
  try dsimp only [AExit.then, AExit.block]
  repeat refine AWp.seq ?_
  refine AWp.region ?_
  refine AOps.stepCall hT (an := {}) (fun A hA => by cbv) (Nat.zero_le _) rfl (.inr rfl) rfl rfl rfl (Nat.le_of_ble_eq_true rfl) rfl rfl (cst) ?_
  refine AOps.done hT (an := {}) (fun A hA => by cbv) (Nat.zero_le _) ?_
  try dsimp only [AExit.then, AExit.block]
  repeat refine AWp.seq ?_
  refine AWp.reg1 {} hT (fun A hA => by
      have f0 := ar_len hA S n hn
      repeat (cbv; simp only [f0])
      cbv) (Nat.zero_le _) ?_
  try dsimp only [AExit.then, AExit.block]
  refine AWp.block (AWp.loopInv (ι := Int × List D) (fun p => 0 ≤ p.1 ∧ p.1 ≤ n ∧ p.2 = ((all.take p.1.toNat).flatMap G1).map dLs ∧ p.2.length ≤ p.1 * 1001000) (fun p => (n - p.1).toNat) [0, 3, 4, 15, 16, 17]
    (fun p => { env := [(0, .d X), (3, .own 1 p.2), (4, .d (.list 3 S)), (15, .d (.list 3 S)), (16, AI n), (17, AI p.1)], heap := [], n := 76 }) (0, []) (by cbv) ⟨Int.le_refl _, by dsimp only; omega, by simp, by simp⟩ ?_)
  rintro ⟨z, l⟩ ⟨h0, h1, hl, hlen1⟩
  dsimp only at *
  by_cases hz : z < n
  · obtain ⟨⟨t, a, b⟩, hs⟩ : ∃ s, all[z.toNat]? = some s := ⟨_, List.getElem?_eq_getElem (by omega)⟩
    have hSz : S[z.toNat]? = some (.agg [I t, I a, I b]) := by rw [← hS, List.getElem?_map, hs]; rfl
    obtain ⟨z1, hz1⟩ : ∃ z1, z + 1 = z1 := ⟨_, rfl⟩
    have hz1n : z1.toNat = z.toNat + 1 := by omega
    have hts := (hth' _ (List.mem_of_getElem? hs)).2
    obtain ⟨G2, hG2⟩ : ∃ G : Sta → List (List Sta), circ2R x all (t, a, b) = G := ⟨_, rfl⟩
    have hg2 : ∀ q, G2 q = circ2R x all (t, a, b) q := fun s => by rw [← hG2]
    have hnext1 := flatMap_take_succ all G1 z.toNat _ hs
    rw [← hz1n, hg1, hG2] at hnext1
    repeat refine AWp.seq ?_
    refine AWp.reg1 {} hT (fun A hA => by
        have f0 := ar_lt hA hz
        repeat (cbv; simp only [f0])
        cbv) (Nat.zero_le _) ?_
    try dsimp only [AExit.then, AExit.block]
    repeat refine AWp.seq ?_
    refine AWp.cond (b := true) rfl (AWp.skip ?_)
    try dsimp only [AExit.then, AExit.block]
    repeat refine AWp.seq ?_
    refine AWp.block ?_
    repeat refine AWp.seq ?_
    refine AWp.reg1 {} hT (fun A hA => by
        have f0 := ar_get hA hSz
        have f1 := ar_le hA h0
        repeat (cbv; simp only [f0, f1])
        cbv) (Nat.zero_le _) ?_
    try dsimp only [AExit.then, AExit.block]
    repeat refine AWp.seq ?_
    refine AWp.reg1 {} hT (fun A hA => by
        have f0 := ar_len hA S n hn
        repeat (cbv; simp only [f0])
        cbv) (Nat.zero_le _) ?_
    try dsimp only [AExit.then, AExit.block]
    refine AWp.block (AWp.loopInv (ι := Int × List D) (fun p => 0 ≤ p.1 ∧ p.1 ≤ n ∧ p.2 = l ++ ((all.take p.1.toNat).flatMap G2).map dLs ∧ p.2.length ≤ z * 1001000 + p.1 * 1001) (fun p => (n - p.1).toNat) [0, 3, 4, 6, 15, 16, 17, 21, 22, 23]
      (fun p => { env := [(0, .d X), (3, .own 1 p.2), (4, .d (.list 3 S)), (6, .lbox [AI t, AI a, AI b]), (15, .d (.list 3 S)), (16, AI n), (17, AI z), (21, .d (.list 3 S)), (22, AI n), (23, AI p.1)], heap := [], n := 76 }) (0, l) (by cbv) ⟨Int.le_refl _, by dsimp only; omega, by simp, by dsimp only; omega⟩ ?_)
    rintro ⟨y, l1⟩ ⟨g0, g1, gl, glen⟩
    dsimp only at *
    by_cases hy : y < n
    · obtain ⟨⟨u, c, d⟩, hq⟩ : ∃ s, all[y.toNat]? = some s := ⟨_, List.getElem?_eq_getElem (by omega)⟩
      have hSy : S[y.toNat]? = some (.agg [I u, I c, I d]) := by rw [← hS, List.getElem?_map, hq]; rfl
      obtain ⟨y1, hy1⟩ : ∃ z1, y + 1 = z1 := ⟨_, rfl⟩
      have hy1n : y1.toNat = y.toNat + 1 := by omega
      have htq := (hth' _ (List.mem_of_getElem? hq)).1
      have c1 := ccf _ _ _ _ hts htq
      try dsimp only at c1
      have hnext2 := flatMap_take_succ all G2 y.toNat _ hq
      rw [← hy1n, hg2] at hnext2
      unfold circ2R at hnext2
      try dsimp only at hnext2
      obtain ⟨cf, hcf⟩ : ∃ r, conflict x t b u c = r := ⟨_, rfl⟩
      rw [hcf] at c1 hnext2
      have c2 := cic [(t, a, b), (u, c, d)] (by simp)
      obtain ⟨r2, hr2⟩ : ∃ r, isCircR x [(t, a, b), (u, c, d)] = r := ⟨_, rfl⟩
      rw [hr2] at c2 hnext2
      simp only [List.map_cons, List.map_nil, dSta] at c2
      obtain ⟨G3, hG3⟩ : ∃ G : Sta → List (List Sta), circ3R x (t, a, b) (u, c, d) = G := ⟨_, rfl⟩
      have hg3 : ∀ r, G3 r = circ3R x (t, a, b) (u, c, d) r := fun s => by rw [← hG3]
      rw [hG3] at hnext2
      repeat refine AWp.seq ?_
      refine AWp.reg1 {} hT (fun A hA => by
          have f0 := ar_lt hA hy
          repeat (cbv; simp only [f0])
          cbv) (Nat.zero_le _) ?_
      try dsimp only [AExit.then, AExit.block]
      repeat refine AWp.seq ?_
      refine AWp.cond (b := true) rfl (AWp.skip ?_)
      try dsimp only [AExit.then, AExit.block]
      repeat refine AWp.seq ?_
      refine AWp.block ?_
      repeat refine AWp.seq ?_
      refine AWp.reg1 {} hT (fun A hA => by
          have f0 := ar_get hA hSy
          have f1 := ar_le hA g0
          repeat (cbv; simp only [f0, f1])
          cbv) (Nat.zero_le _) ?_
      try dsimp only [AExit.then, AExit.block]
      refine AWp.cut (fun σ' => (decide (t = u) || !cf) = false ∧ σ'.keep [0, 3, 4, 6, 8, 15, 16, 17, 21, 22, 23] = { env := [(0, .d X), (3, .own 1 l1), (4, .d (.list 3 S)), (6, .lbox [AI t, AI a, AI b]), (8, .lbox [AI u, AI c, AI d]), (15, .d (.list 3 S)), (16, AI n), (17, AI z), (21, .d (.list 3 S)), (22, AI n), (23, AI y)], heap := [], n := 76 }) ?_ ?_
      · by_cases e : t = u
        · rw [if_pos (by simp [e])] at hnext2
          repeat refine AWp.seq ?_
          refine AWp.reg1 {} hT (fun A hA => by
              have f0 := ar_eq hA e
              repeat (cbv; simp only [f0])
              cbv) (Nat.zero_le _) ?_
          try dsimp only [AExit.then, AExit.block]
          repeat refine AWp.seq ?_
          refine AWp.cond (b := true) rfl ?_
          rw [if_pos rfl]
          refine AWp.exit ?_
          dsimp only [AExit.then, AExit.block]
          rw [if_pos rfl]
          repeat refine AWp.seq ?_
          refine AWp.reg1 {} hT (fun A hA => by
              have f0 := ar_add hA y 1 y1 hy1 (by omega) (by omega)
              repeat (cbv; simp only [f0])
              cbv) (Nat.zero_le _) ?_
          try dsimp only [AExit.then, AExit.block]
          exact ⟨(y1, l1), ⟨by dsimp only; omega, by dsimp only; omega, by dsimp only; rw [hnext2, gl]; simp, by dsimp only; omega⟩, by dsimp only; omega, by cbv⟩
        · repeat refine AWp.seq ?_
          refine AWp.region ?_
          refine AOps.stepCall hT (an := {}) (fun A hA => by
              have f0 := ar_ne hA e
              repeat (cbv; simp only [f0])
              cbv) (Nat.zero_le _) rfl (.inr rfl) rfl rfl rfl (Nat.le_of_ble_eq_true rfl) rfl rfl (c1) ?_
          refine AOps.done hT (an := {}) (fun A hA => by cbv) (Nat.zero_le _) ?_
          try dsimp only [AExit.then, AExit.block]
          cases cf with
          | true =>
            repeat refine AWp.seq ?_
            refine AWp.cond (b := false) rfl (AWp.skip ?_)
            try dsimp only [AExit.then, AExit.block]
            exact ⟨by simp [e], by cbv⟩
          | false =>
            rw [if_pos (by simp)] at hnext2
            repeat refine AWp.seq ?_
            refine AWp.cond (b := true) rfl ?_
            rw [if_pos rfl]
            refine AWp.exit ?_
            dsimp only [AExit.then, AExit.block]
            rw [if_pos rfl]
            repeat refine AWp.seq ?_
            refine AWp.reg1 {} hT (fun A hA => by
                have f0 := ar_add hA y 1 y1 hy1 (by omega) (by omega)
                repeat (cbv; simp only [f0])
                cbv) (Nat.zero_le _) ?_
            try dsimp only [AExit.then, AExit.block]
            exact ⟨(y1, l1), ⟨by dsimp only; omega, by dsimp only; omega, by dsimp only; rw [hnext2, gl]; simp, by dsimp only; omega⟩, by dsimp only; omega, by cbv⟩
      · rintro σ1 ⟨hcd, hσ1⟩
        refine AWp.keep [0, 3, 4, 6, 8, 15, 16, 17, 21, 22, 23] ?_
        rw [hσ1]
        rw [hcd, if_neg (by simp)] at hnext2
        refine AWp.cut (fun σ' => ∃ l2 : List D, l2 = l1 ++ (if r2 then [[(t, a, b), (u, c, d)]] else []).map dLs ∧ l2.length ≤ l1.length + 1 ∧ σ'.keep [0, 3, 4, 6, 8, 15, 16, 17, 21, 22, 23] = { env := [(0, .d X), (3, .own 1 l2), (4, .d (.list 3 S)), (6, .lbox [AI t, AI a, AI b]), (8, .lbox [AI u, AI c, AI d]), (15, .d (.list 3 S)), (16, AI n), (17, AI z), (21, .d (.list 3 S)), (22, AI n), (23, AI y)], heap := [], n := 76 }) ?_ ?_
        · repeat refine AWp.seq ?_
          refine AWp.reg1 {} hT (fun A hA => by cbv) (Nat.zero_le _) ?_
          try dsimp only [AExit.then, AExit.block]
          repeat refine AWp.seq ?_
          refine AWp.region ?_
          refine AOps.stepCall hT (an := {}) (fun A hA => by cbv) (Nat.zero_le _) rfl (.inr rfl) rfl rfl rfl (Nat.le_of_ble_eq_true rfl) rfl rfl (c2) ?_
          refine AOps.done hT (an := {}) (fun A hA => by cbv) (Nat.zero_le _) ?_
          try dsimp only [AExit.then, AExit.block]
          cases r2 with
          | true =>
            obtain ⟨l2, hl2⟩ : ∃ l2, l1 ++ [.list 3 [.agg [I t, I a, I b], .agg [I u, I c, I d]]] = l2 := ⟨_, rfl⟩
            repeat refine AWp.seq ?_
            refine AWp.cond (b := true) rfl ?_
            rw [if_pos rfl]
            repeat refine AWp.seq ?_
            refine AWp.reg1 {tk := [3, 51, 54]} hT (fun A hA => by
                have f0 := ar_app hA _ _ _ hl2
                have f1 := ar_fits hA l1 [.list 3 [.agg [I t, I a, I b], .agg [I u, I c, I d]]] (by simp; omega)
                repeat (cbv; simp only [f0, f1])
                cbv) (Nat.zero_le _) ?_
            try dsimp only [AExit.then, AExit.block]
            exact ⟨l2, by rw [← hl2]; rfl, by rw [← hl2]; simp, by cbv⟩
          | false =>
            repeat refine AWp.seq ?_
            refine AWp.cond (b := false) rfl (AWp.skip ?_)
            try dsimp only [AExit.then, AExit.block]
            exact ⟨l1, by simp, by omega, by cbv⟩
        · rintro σ2 ⟨l2, hl2, hl2n, hσ2⟩
          refine AWp.keep [0, 3, 4, 6, 8, 15, 16, 17, 21, 22, 23] ?_
          rw [hσ2]
          repeat refine AWp.seq ?_
          refine AWp.reg1 {} hT (fun A hA => by
              have f0 := ar_len hA S n hn
              repeat (cbv; simp only [f0])
              cbv) (Nat.zero_le _) ?_
          try dsimp only [AExit.then, AExit.block]
          refine AWp.block (AWp.loopInv (ι := Int × List D) (fun p => 0 ≤ p.1 ∧ p.1 ≤ n ∧ p.2 = l2 ++ ((all.take p.1.toNat).flatMap G3).map dLs ∧ p.2.length ≤ z * 1001000 + y * 1001 + 1 + p.1) (fun p => (n - p.1).toNat) [0, 3, 4, 6, 8, 15, 16, 17, 21, 22, 23, 55, 56, 57]
            (fun p => { env := [(0, .d X), (3, .own 1 p.2), (4, .d (.list 3 S)), (6, .lbox [AI t, AI a, AI b]), (8, .lbox [AI u, AI c, AI d]), (15, .d (.list 3 S)), (16, AI n), (17, AI z), (21, .d (.list 3 S)), (22, AI n), (23, AI y), (55, .d (.list 3 S)), (56, AI n), (57, AI p.1)], heap := [], n := 76 }) (0, l2) (by cbv) ⟨Int.le_refl _, by dsimp only; omega, by simp, by dsimp only; omega⟩ ?_)
          rintro ⟨v, l3⟩ ⟨e0, e1, el, elen⟩
          dsimp only at *
          by_cases hv : v < n
          · obtain ⟨⟨w, f, g⟩, hr⟩ : ∃ s, all[v.toNat]? = some s := ⟨_, List.getElem?_eq_getElem (by omega)⟩
            have hSv : S[v.toNat]? = some (.agg [I w, I f, I g]) := by rw [← hS, List.getElem?_map, hr]; rfl
            obtain ⟨v1, hv1⟩ : ∃ z1, v + 1 = z1 := ⟨_, rfl⟩
            have hv1n : v1.toNat = v.toNat + 1 := by omega
            have hnext3 := flatMap_take_succ all G3 v.toNat _ hr
            rw [← hv1n, hg3] at hnext3
            unfold circ3R at hnext3
            have c3 := cic [(t, a, b), (u, c, d), (w, f, g)] (by simp)
            obtain ⟨r3, hr3⟩ : ∃ r, isCircR x [(t, a, b), (u, c, d), (w, f, g)] = r := ⟨_, rfl⟩
            rw [hr3] at c3 hnext3
            simp only [List.map_cons, List.map_nil, dSta] at c3
            repeat refine AWp.seq ?_
            refine AWp.reg1 {} hT (fun A hA => by
                have f0 := ar_lt hA hv
                repeat (cbv; simp only [f0])
                cbv) (Nat.zero_le _) ?_
            try dsimp only [AExit.then, AExit.block]
            repeat refine AWp.seq ?_
            refine AWp.cond (b := true) rfl (AWp.skip ?_)
            try dsimp only [AExit.then, AExit.block]
            repeat refine AWp.seq ?_
            refine AWp.block ?_
            repeat refine AWp.seq ?_
            refine AWp.reg1 {} hT (fun A hA => by
                have f0 := ar_get hA hSv
                have f1 := ar_le hA e0
                repeat (cbv; simp only [f0, f1])
                cbv) (Nat.zero_le _) ?_
            try dsimp only [AExit.then, AExit.block]
            repeat refine AWp.seq ?_
            refine AWp.reg1 {} hT (fun A hA => by cbv) (Nat.zero_le _) ?_
            try dsimp only [AExit.then, AExit.block]
            repeat refine AWp.seq ?_
            refine AWp.region ?_
            refine AOps.stepCall hT (an := {}) (fun A hA => by cbv) (Nat.zero_le _) rfl (.inr rfl) rfl rfl rfl (Nat.le_of_ble_eq_true rfl) rfl rfl (c3) ?_
            refine AOps.done hT (an := {}) (fun A hA => by cbv) (Nat.zero_le _) ?_
            try dsimp only [AExit.then, AExit.block]
            cases r3 with
            | true =>
              obtain ⟨l4, hl4⟩ : ∃ l2, l3 ++ [.list 3 [.agg [I t, I a, I b], .agg [I u, I c, I d], .agg [I w, I f, I g]]] = l2 := ⟨_, rfl⟩
              repeat refine AWp.seq ?_
              refine AWp.cond (b := true) rfl ?_
              rw [if_pos rfl]
              repeat refine AWp.seq ?_
              refine AWp.reg1 {tk := [3, 68, 71]} hT (fun A hA => by
                  have f0 := ar_app hA _ _ _ hl4
                  have f1 := ar_fits hA l3 [.list 3 [.agg [I t, I a, I b], .agg [I u, I c, I d], .agg [I w, I f, I g]]] (by simp; omega)
                  repeat (cbv; simp only [f0, f1])
                  cbv) (Nat.zero_le _) ?_
              try dsimp only [AExit.then, AExit.block]
              repeat refine AWp.seq ?_
              refine AWp.reg1 {} hT (fun A hA => by
                  have f0 := ar_add hA v 1 v1 hv1 (by omega) (by omega)
                  repeat (cbv; simp only [f0])
                  cbv) (Nat.zero_le _) ?_
              try dsimp only [AExit.then, AExit.block]
              exact ⟨(v1, l4), ⟨by dsimp only; omega, by dsimp only; omega, by dsimp only; rw [hnext3, ← hl4, el]; simp [dLs, dSta], by dsimp only; rw [← hl4]; simp; omega⟩, by dsimp only; omega, by cbv⟩
            | false =>
              repeat refine AWp.seq ?_
              refine AWp.cond (b := false) rfl (AWp.skip ?_)
              try dsimp only [AExit.then, AExit.block]
              repeat refine AWp.seq ?_
              refine AWp.reg1 {} hT (fun A hA => by
                  have f0 := ar_add hA v 1 v1 hv1 (by omega) (by omega)
                  repeat (cbv; simp only [f0])
                  cbv) (Nat.zero_le _) ?_
              try dsimp only [AExit.then, AExit.block]
              exact ⟨(v1, l3), ⟨by dsimp only; omega, by dsimp only; omega, by dsimp only; rw [hnext3, el]; simp, by dsimp only; omega⟩, by dsimp only; omega, by cbv⟩
          · have hvn : v = n := by omega
            subst hvn
            rw [List.take_of_length_le (by omega)] at el
            repeat refine AWp.seq ?_
            refine AWp.reg1 {} hT (fun A hA => by
                have f0 := ar_nlt hA hv
                repeat (cbv; simp only [f0])
                cbv) (Nat.zero_le _) ?_
            try dsimp only [AExit.then, AExit.block]
            repeat refine AWp.seq ?_
            refine AWp.cond (b := false) rfl (AWp.exit ?_)
            try dsimp only [AExit.then, AExit.block]
            rw [if_pos rfl]
            repeat refine AWp.seq ?_
            refine AWp.reg1 {} hT (fun A hA => by
                have f0 := ar_add hA y 1 y1 hy1 (by omega) (by omega)
                repeat (cbv; simp only [f0])
                cbv) (Nat.zero_le _) ?_
            try dsimp only [AExit.then, AExit.block]
            exact ⟨(y1, l3), ⟨by dsimp only; omega, by dsimp only; omega, by dsimp only; rw [hnext2, el, hl2, gl]; simp, by dsimp only; omega⟩, by dsimp only; omega, by cbv⟩
    · have hyn : y = n := by omega
      subst hyn
      rw [List.take_of_length_le (by omega)] at gl
      repeat refine AWp.seq ?_
      refine AWp.reg1 {} hT (fun A hA => by
          have f0 := ar_nlt hA hy
          repeat (cbv; simp only [f0])
          cbv) (Nat.zero_le _) ?_
      try dsimp only [AExit.then, AExit.block]
      repeat refine AWp.seq ?_
      refine AWp.cond (b := false) rfl (AWp.exit ?_)
      try dsimp only [AExit.then, AExit.block]
      rw [if_pos rfl]
      repeat refine AWp.seq ?_
      refine AWp.reg1 {} hT (fun A hA => by
          have f0 := ar_add hA z 1 z1 hz1 (by omega) (by omega)
          repeat (cbv; simp only [f0])
          cbv) (Nat.zero_le _) ?_
      try dsimp only [AExit.then, AExit.block]
      exact ⟨(z1, l1), ⟨by dsimp only; omega, by dsimp only; omega, by dsimp only; rw [hnext1, gl, hl]; simp, by dsimp only; omega⟩, by dsimp only; omega, by cbv⟩
  · have hzn : z = n := by omega
    subst hzn
    rw [List.take_of_length_le (by omega)] at hl
    subst hl
    obtain ⟨R, hR⟩ : ∃ R, (all.flatMap G1).map dLs = R := ⟨_, rfl⟩
    rw [hR]
    repeat refine AWp.seq ?_
    refine AWp.reg1 {} hT (fun A hA => by
        have f0 := ar_nlt hA hz
        repeat (cbv; simp only [f0])
        cbv) (Nat.zero_le _) ?_
    try dsimp only [AExit.then, AExit.block]
    repeat refine AWp.seq ?_
    refine AWp.cond (b := false) rfl (AWp.exit ?_)
    try dsimp only [AExit.then, AExit.block]
    rw [if_pos rfl]
    repeat refine AWp.seq ?_
    refine AWp.reg1 {tk := [3, 75]} hT (fun A hA => by cbv) (Nat.zero_le _) ?_
    try dsimp only [AExit.then, AExit.block]
    repeat refine AWp.seq ?_
    refine AWp.ret ⟨?_, rfl, rfl, Nat.zero_le _, _, rfl⟩
    rfl
end Go.Am
