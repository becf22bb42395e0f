/- Own text: D1h. -/
import Derived.Test.YtalfdjihejohoaaD1g
set_option maxRecDepth 100000
set_option linter.unusedVariables false
set_option linter.unusedSimpArgs false
namespace Go.Am
open Go Go.Proofs

theorem sameThread_ok (u s : Sta) : ACall P 120 [.d (dSta u), .ptr 0 0] [.cells [AI s.1, AI s.2.1, AI s.2.2]] (AB (decide (u.1 = s.1))) [.cells [AI s.1, AI s.2.1, AI s.2.2]] := by
  obtain ⟨t, a, b⟩ := u
  obtain ⟨t', a', b'⟩ := s
  unfold dSta
  dsimp only
  refine ACall.enter hT (fn := Try.f120) Try.func120 rfl (by decide) (by simp [Try.f120]) rfl rfl rfl rfl (Nat.le_refl _) ?_
  repeat refine AWp.seq ?_
  refine AWp.reg1 {} hT (fun A hA => by cbv) (Nat.le_refl _) ?_
  try dsimp only [AExit.then, AExit.block]
  by_cases h : t = t'
  · repeat refine AWp.seq ?_
    refine AWp.reg1 {} hT (fun A hA => by
        have f0 := ar_eq hA h
        repeat (cbv; simp only [f0])
        cbv) (Nat.le_refl _) ?_
    try dsimp only [AExit.then, AExit.block]
    repeat refine AWp.seq ?_
    refine AWp.ret ⟨?_, rfl, rfl, Nat.le_refl _, _, rfl⟩
    simp [h]; rfl
  · repeat refine AWp.seq ?_
    refine AWp.reg1 {} hT (fun A hA => by
        have f0 := ar_ne hA h
        repeat (cbv; simp only [f0])
        cbv) (Nat.le_refl _) ?_
    try dsimp only [AExit.then, AExit.block]
    repeat refine AWp.seq ?_
    refine AWp.ret ⟨?_, rfl, rfl, Nat.le_refl _, _, rfl⟩
    simp [h]; rfl

/-- The accesses of a station are there. -/
def isThere (x : List (List Acc)) (s : Sta) : Bool := there x s.1 s.2.1 && there x s.1 s.2.2
def circAt (x : List (List Acc)) (l : List Sta) (i : Nat) : Bool :=
  let s := l.getD i (0, 0, 0)
  let n := l.getD ((i + 1) % l.length) (0, 0, 0)
  conflict x s.1 s.2.2 n.1 n.2.1 && !(l.take i).any fun u => decide (u.1 = s.1)
def isCircle (x : List (List Acc)) (l : List Sta) : Bool := (List.range l.length).all (circAt x l) && l.any (isPair x)

theorem isCircle_ok (x : List (List Acc)) (hx : Small x) (l : List Sta) (hl : l.length ≤ 1000000) (hth : ∀ s ∈ l, isThere x s = true) : ACall P 80 [.d (dX x), .d (.list 3 (l.map dSta))] [] (AB (isCircle x l)) [] := by
  have cp : ∀ s, ACall P 84 [.d (dX x), .d (dSta s)] [] (AB (isPair x s)) [] := fun s => isPair_ok x s hx
  have cc : ∀ s ∈ l, ∀ u ∈ l, ACall P 63 [.d (dX x), .d (.agg [I s.1, I s.2.2]), .d (.agg [I u.1, I u.2.1])] [] (AB (conflict x s.1 s.2.2 u.1 u.2.1)) [] := fun s hs u hu =>
    conflict_ok x _ _ _ _ (by have := hth s hs; unfold isThere at this; simp at this; exact this.2) (by have := hth u hu; unfold isThere at this; simp at this; exact this.1)
  have chas : ∀ (m : Nat) (s : Sta), ACall P 119 [.d (.list 3 ((l.take m).map dSta)), .func 120 [] [.ptr 0 0]] [.cells [AI s.1, AI s.2.1, AI s.2.2]] (AB ((l.take m).any fun u => decide (u.1 = s.1))) [.cells [AI s.1, AI s.2.1, AI s.2.2]] := fun m s =>
    contains98 _ (by rw [List.length_take]; omega) 120 [.ptr 0 0] _ _ rfl rfl rfl (fun u _ => sameThread_ok u s)
  have hdef : isCircle x l = ((List.range l.length).all (circAt x l) && l.any (isPair x)) := rfl
  have hcirc : ∀ i, circAt x l i = (conflict x (l.getD i (0, 0, 0)).1 (l.getD i (0, 0, 0)).2.2 (l.getD ((i + 1) % l.length) (0, 0, 0)).1 (l.getD ((i + 1) % l.length) (0, 0, 0)).2.1 && !(l.take i).any fun u => decide (u.1 = (l.getD i (0, 0, 0)).1)) := fun i => rfl
  obtain ⟨X, hX⟩ : ∃ X, dX x = X := ⟨_, rfl⟩
  rw [hX] at cp ⊢
  simp only [hX] at cc
  obtain ⟨L, hL⟩ : ∃ L, l.map dSta = L := ⟨_, rfl⟩
  obtain ⟨n, hn⟩ : ∃ n : Int, (L.length : Int) = n := ⟨_, rfl⟩
  have hln : (l.length : Int) = n := by rw [← hn, ← hL]; simp
  rw [hL]
  refine ACall.enter hT (fn := Try.f80) Try.func80 rfl (by decide) (by simp [Try.f80]) rfl rfl rfl rfl (Nat.le_refl _) ?_
  repeat refine AWp.seq ?_
  refine AWp.reg1 {} hT (fun A hA => by cbv) (Nat.zero_le _) ?_
  try dsimp only [AExit.then, AExit.block]
  repeat refine AWp.seq ?_
  refine AWp.reg1 {} hT (fun A hA => by cbv) (Nat.zero_le _) ?_
  try dsimp only [AExit.then, AExit.block]
  repeat refine AWp.seq ?_
  refine AWp.reg1 {} hT (fun A hA => by
      have f0 := ar_len hA L n hn
      repeat (cbv; simp only [f0])
      cbv) (Nat.zero_le _) ?_
  try dsimp only [AExit.then, AExit.block]
  refine AWp.block (AWp.loopH (ι := Int × Bool) (fun p => 0 ≤ p.1 ∧ p.1 ≤ n ∧ (∀ i, i < p.1.toNat → circAt x l i = true) ∧ p.2 = (l.take p.1.toNat).any (isPair x)) (fun p => (n - p.1).toNat) [0, 1, 5, 9, 10, 11] 0
    (fun p => { env := [(0, .d X), (1, .d (.list 3 L)), (5, AB p.2), (9, .d (.list 3 L)), (10, AI n), (11, AI p.1)], heap := [], n := 46 }) (0, false) (Nat.le_refl _) rfl (by cbv) ⟨Int.le_refl _, by omega, by simp, by simp⟩ ?_)
  rintro ⟨z, sm⟩ ⟨h0, h1, hc, hp⟩
  dsimp only at *
  by_cases hz : z < n
  · obtain ⟨⟨t, a, b⟩, hs⟩ : ∃ s, l[z.toNat]? = some s := ⟨_, List.getElem?_eq_getElem (by omega)⟩
    have hLz : L[z.toNat]? = some (.agg [I t, I a, I b]) := by rw [← hL, List.getElem?_map, hs]; rfl
    obtain ⟨z1, hz1⟩ : ∃ z1, z + 1 = z1 := ⟨_, rfl⟩
    have hz1n : z1.toNat = z.toNat + 1 := by omega
    obtain ⟨q, hq⟩ : ∃ q, z1.tmod n = q := ⟨_, rfl⟩
    have hq' : q = ((z1.toNat % l.length : Nat) : Int) := by
      rw [← hq, show z1 = (z1.toNat : Int) by omega, ← hln, Int.ofNat_tmod]; simp
    have hlpos : 0 < l.length := by omega
    have hqlt : q.toNat < l.length := by rw [hq']; have := Nat.mod_lt z1.toNat hlpos; omega
    have hq0 : 0 ≤ q := by omega
    obtain ⟨⟨t', a', b'⟩, hs'⟩ : ∃ s, l[q.toNat]? = some s := ⟨_, List.getElem?_eq_getElem hqlt⟩
    have hLq : L[q.toNat]? = some (.agg [I t', I a', I b']) := by rw [← hL, List.getElem?_map, hs']; rfl
    have hat := hcirc z.toNat
    rw [← hz1n, show z1.toNat % l.length = q.toNat by omega, List.getD_eq_getElem?_getD, hs, List.getD_eq_getElem?_getD, hs'] at hat
    simp only [Option.getD_some] at hat
    have c1 := cc _ (List.mem_of_getElem? hs) _ (List.mem_of_getElem? hs')
    have c2 := chas z.toNat (t, a, b)
    have c3 := cp (t, a, b)
    unfold dSta at c3
    dsimp only at c1 c2 c3
    obtain ⟨r, hr⟩ : ∃ r, conflict x t b t' a' = r := ⟨_, rfl⟩
    obtain ⟨r2, hr2⟩ : ∃ r, ((l.take z.toNat).any fun u => decide (u.1 = t)) = r := ⟨_, rfl⟩
    obtain ⟨r3, hr3⟩ : ∃ r, isPair x (t, a, b) = r := ⟨_, rfl⟩
    obtain ⟨L2, hL2⟩ : ∃ L2, (l.take z.toNat).map dSta = L2 := ⟨_, rfl⟩
    have hL2' : L.take z.toNat = L2 := by rw [← hL2, ← hL, List.map_take]
    rw [hr] at c1 hat
    rw [hr2] at c2 hat
    rw [hL2] at c2
    rw [hr3] at c3
    have hno : circAt x l z.toNat = false → isCircle x l = false := fun h => by
      rw [hdef]
      have : (List.range l.length).all (circAt x l) = false := List.all_eq_false.2 ⟨z.toNat, by simp; omega, by rw [h]; simp⟩
      rw [this]; rfl
    have hnext : l.take z1.toNat = l.take z.toNat ++ [(t, a, b)] := by rw [hz1n, List.take_add_one, hs]; rfl
    have hsub : ∀ A : Ar, A = Ar.std → A.sub L 0 z = L2 := fun A hA => by subst hA; rw [← hL2']; simp [Ar.std]
    have hrem : ∀ A : Ar, A = Ar.std → A.rem z1 n = q := fun A hA => by subst hA; exact hq
    repeat refine AWp.seq ?_
    refine AWp.reg1 {} hT (fun A hA => by
        have f0 := ar_lt hA hz
        repeat (cbv; simp only [f0])
        cbv) (Nat.zero_le _) ?_
    try dsimp only [AExit.then, AExit.block]
    repeat refine AWp.seq ?_
    refine AWp.cond (b := true) rfl (AWp.skip ?_)
    try dsimp only [AExit.then, AExit.block]
    repeat refine AWp.seq ?_
    refine AWp.block ?_
    repeat refine AWp.seq ?_
    refine AWp.reg1 {esc := [7]} hT (fun A hA => by
        have f0 := ar_get hA hLz
        have f1 := ar_le hA h0
        repeat (cbv; simp only [f0, f1])
        cbv) (Nat.zero_le _) ?_
    try dsimp only [AExit.then, AExit.block]
    repeat refine AWp.seq ?_
    refine AWp.reg1 {} hT (fun A hA => by
        have f0 := ar_add hA z 1 z1 hz1 (by omega) (by omega)
        have f1 := ar_len hA L n hn
        have f2 := ar_ne hA (show ¬ n = 0 by omega)
        have f3 := hrem A hA
        have f4 := ar_get hA hLq
        have f5 := ar_le hA hq0
        repeat (cbv; simp only [f0, f1, f2, f3, f4, f5])
        cbv) (Nat.zero_le _) ?_
    try dsimp only [AExit.then, AExit.block]
    repeat refine AWp.seq ?_
    refine AWp.regionDraw rfl (Nat.zero_le _) ?_
    refine DOps.stepCall hT (an := {}) rfl (fun A hA => by cbv) rfl rfl (Nat.le_of_ble_eq_true rfl) rfl rfl (out_ok t a b) ?_
    refine DOps.stepCall hT (an := {}) rfl (fun A hA => by cbv) rfl rfl (Nat.le_of_ble_eq_true rfl) rfl rfl (in_ok t' a' b') ?_
    refine DOps.stepCall hT (an := {}) rfl (fun A hA => by cbv) rfl rfl (Nat.le_of_ble_eq_true rfl) rfl rfl (c1) ?_
    cases r with
    | false =>
      refine DOps.done hT (an := {}) rfl (fun A hA => by cbv) (by kernel_rfl) ?_
      try dsimp only [AExit.then, AExit.block]
      repeat refine AWp.seq ?_
      refine AWp.cond (b := true) rfl ?_
      rw [if_pos rfl]
      repeat refine AWp.seq ?_
      refine AWp.reg1 {} hT (fun A hA => by cbv) (Nat.zero_le _) ?_
      try dsimp only [AExit.then, AExit.block]
      repeat refine AWp.seq ?_
      refine AWp.ret ⟨?_, rfl, rfl, Nat.zero_le _, _, rfl⟩
      rw [hno (by rw [hat]; rfl)]; rfl
    | true =>
      refine DOps.stepCallH hT (an := {}) rfl (fun A hA => by
          have f0 := ar_len hA L n hn
          have f1 := ar_le hA (Int.le_refl 0)
          have f2 := ar_le hA h0
          have f3 := ar_le hA h1
          have f4 := hsub A hA
          repeat (cbv; simp only [f0, f1, f2, f3, f4])
          cbv) rfl (.inr rfl) (by first | rfl | exact hin) rfl rfl (Nat.le_of_ble_eq_true rfl) rfl rfl (c2) ?_
      refine DOps.done hT (an := {}) rfl (fun A hA => by cbv) (by kernel_rfl) ?_
      try dsimp only [AExit.then, AExit.block]
      cases r2 with
      | true =>
        repeat refine AWp.seq ?_
        refine AWp.cond (b := true) rfl ?_
        rw [if_pos rfl]
        repeat refine AWp.seq ?_
        refine AWp.reg1 {} hT (fun A hA => by cbv) (Nat.zero_le _) ?_
        try dsimp only [AExit.then, AExit.block]
        repeat refine AWp.seq ?_
        refine AWp.ret ⟨?_, rfl, rfl, Nat.zero_le _, _, rfl⟩
        rw [hno (by rw [hat]; rfl)]; rfl
      | false =>
        have hcn : ∀ i, i < z1.toNat → circAt x l i = true := fun i hi => by
          rcases Nat.lt_or_ge i z.toNat with h | h
          · exact hc i h
          · rw [show i = z.toNat by omega, hat]; rfl
        repeat refine AWp.seq ?_
        refine AWp.cond (b := false) rfl (AWp.skip ?_)
        try dsimp only [AExit.then, AExit.block]
        cases sm with
        | true =>
          repeat refine AWp.seq ?_
          refine AWp.reg1 {} hT (fun A hA => by cbv) (Nat.zero_le _) ?_
          try dsimp only [AExit.then, AExit.block]
          repeat refine AWp.seq ?_
          refine AWp.reg1 {} hT (fun A hA => by
              have f0 := ar_add hA z 1 z1 hz1 (by omega) (by omega)
              repeat (cbv; simp only [f0])
              cbv) (Nat.zero_le _) ?_
          try dsimp only [AExit.then, AExit.block]
          exact ⟨rfl, (z1, true), ⟨by dsimp only; omega, by dsimp only; omega, hcn, by dsimp only; rw [hnext, List.any_append, ← hp]; rfl⟩, by dsimp only; omega, by cbv⟩
        | false =>
          repeat refine AWp.seq ?_
          refine AWp.region ?_
          refine AOps.stepCall hT (an := {}) (fun A hA => by cbv) (Nat.zero_le _) rfl (.inr rfl) rfl rfl rfl (Nat.le_of_ble_eq_true rfl) rfl rfl (c3) ?_
          refine AOps.done hT (an := {}) (fun A hA => by cbv) (Nat.zero_le _) ?_
          try dsimp only [AExit.then, AExit.block]
          repeat refine AWp.seq ?_
          refine AWp.reg1 {} hT (fun A hA => by
              have f0 := ar_add hA z 1 z1 hz1 (by omega) (by omega)
              repeat (cbv; simp only [f0])
              cbv) (Nat.zero_le _) ?_
          try dsimp only [AExit.then, AExit.block]
          exact ⟨rfl, (z1, r3), ⟨by dsimp only; omega, by dsimp only; omega, hcn, by dsimp only; rw [hnext, List.any_append, ← hp]; simp [hr3]⟩, by dsimp only; omega, by cbv⟩
  · repeat refine AWp.seq ?_
    refine AWp.reg1 {} hT (fun A hA => by
        have f0 := ar_nlt hA hz
        repeat (cbv; simp only [f0])
        cbv) (Nat.zero_le _) ?_
    try dsimp only [AExit.then, AExit.block]
    repeat refine AWp.seq ?_
    refine AWp.cond (b := false) rfl (AWp.exit ?_)
    try dsimp only [AExit.then, AExit.block]
    rw [if_pos rfl]
    repeat refine AWp.seq ?_
    refine AWp.reg1 {} hT (fun A hA => by cbv) (Nat.zero_le _) ?_
    try dsimp only [AExit.then, AExit.block]
    repeat refine AWp.seq ?_
    refine AWp.ret ⟨?_, rfl, rfl, Nat.zero_le _, _, rfl⟩
    have h2 : (List.range l.length).all (circAt x l) = true := List.all_eq_true.2 (fun i hi => hc i (by have := List.mem_range.1 hi; omega))
    rw [hdef, h2, hp, List.take_of_length_le (by omega)]; rfl
end Go.Am
