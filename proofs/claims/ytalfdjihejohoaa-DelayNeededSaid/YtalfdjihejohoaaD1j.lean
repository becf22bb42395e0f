/- Own text: D1j. -/
import Derived.Test.YtalfdjihejohoaaD1i
set_option maxRecDepth 100000
set_option linter.unusedVariables false
set_option linter.unusedSimpArgs false
namespace Go.Am
open Go Go.Proofs

theorem mem_stations {x : List (List Acc)} {s : Sta} (h : s ∈ stations x) : isThere x s = true := by
  unfold stations staT at h
  simp only [List.mem_flatMap, List.mem_range] at h
  obtain ⟨t, ht, h⟩ := h
  unfold staA at h
  simp only [List.mem_flatMap, List.mem_range] at h
  obtain ⟨a, ha, h⟩ := h
  unfold staB at h
  simp only [List.mem_map, List.mem_filter, List.mem_range, Bool.and_eq_true, Bool.or_eq_true, decide_eq_true_eq] at h
  obtain ⟨b, ⟨hb, hab, hor⟩, rfl⟩ := h
  rw [List.getD_eq_getElem?_getD, List.getElem?_eq_getElem ht] at ha hb
  simp only [Option.getD_some] at ha hb
  unfold isThere there
  simp [ht]
  omega
theorem flatMap_len {α : Type} (g : Nat → List α) (k : Nat) : ∀ (l : List Nat), (∀ t ∈ l, (g t).length ≤ k) → (l.flatMap g).length ≤ l.length * k
  | [], _ => by simp
  | t :: r, h => by
    have h1 := flatMap_len g k r (fun t ht => h t (by simp [ht]))
    have h2 := h t (by simp)
    simp only [List.flatMap_cons, List.length_append, List.length_cons, Nat.succ_mul]
    omega
theorem stations_length {x : List (List Acc)} (hx : Small x) : (stations x).length ≤ 1000000000 := by
  have h1 : ∀ t a n, (staB x t a n).length ≤ n := fun t a n => by
    unfold staB
    rw [List.length_map]
    exact Nat.le_trans (List.length_filter_le _ _) (by simp)
  have h2 : ∀ t, t < x.length → (staA x t (x.getD t []).length (x.getD t []).length).length ≤ 1000000 := fun t ht => by
    have hl := hx.2 _ (List.getElem_mem ht)
    have := flatMap_len (fun a => staB x t a (x.getD t []).length) (x.getD t []).length (List.range (x.getD t []).length) (fun a _ => h1 _ _ _)
    rw [List.getD_eq_getElem?_getD, List.getElem?_eq_getElem ht] at this ⊢
    simp only [Option.getD_some, List.length_range] at this ⊢
    exact Nat.le_trans this (Nat.mul_le_mul hl hl)
  have := flatMap_len (fun t => staA x t (x.getD t []).length (x.getD t []).length) 1000000 (List.range x.length) (fun t ht => h2 t (List.mem_range.1 ht))
  rw [List.length_range] at this
  exact Nat.le_trans this (Nat.mul_le_mul_right _ hx.1)

def circles (x : List (List Acc)) : List (List Sta) := circFrom x (stations x) 3 []

theorem circles_ok {S : Type} (A B : S → Obj) (hAB : ∀ s k, 2 ≤ k → (A s).inb k = true ∧ (B s).inb k = true) (step : S → List Sta → S × Bool) (x : List (List Acc)) (hx : Small x)
    (hy : ∀ s l, l.length ≤ 3 → YCall P 1 [.d (.list 3 (l.map dSta))] [A s, B s] (AB (step s l).2) [A (step s l).1, B (step s l).1]) (s : S) :
    ACall P 61 [.d (dX x), .yield 1] [A s, B s] (.tuple []) [A (runY step s (circles x)).1, B (runY step s (circles x)).1] := by
  have cg := grow_ok A B hAB step x hx (stations x) (fun s hs => mem_stations hs) (Nat.le_trans (stations_length hx) (by omega)) hy 3 [] s rfl (by simp)
  have cs := stations_ok x hx
  have hin2 : ∀ s, objsInb [A s, B s].length [A s, B s] = true := fun s => by
    have h1 := (hAB s 2 (by omega)).1
    have h2 := (hAB s 2 (by omega)).2
    show ((A s).inb 2 && ((B s).inb 2 && _)) = true
    rw [h1, h2]; rfl
  have hin : ∀ X LA s, objsInb (heapC X (A s) (B s) LA).length (heapC X (A s) (B s) LA) = true := fun X LA s => by
    have h1 := (hAB s 6 (by omega)).1
    have h2 := (hAB s 6 (by omega)).2
    show ((A s).inb 6 && ((B s).inb 6 && _)) = true
    rw [h1, h2]; rfl
  unfold circles
  obtain ⟨X, hX⟩ : ∃ X, dX x = .list 1 X := ⟨_, rfl⟩
  obtain ⟨LA, hLA⟩ : ∃ L, (stations x).map dSta = L := ⟨_, rfl⟩
  obtain ⟨⟨fs, fb⟩, hfin⟩ : ∃ p, runY step s (circFrom x (stations x) 3 []) = p := ⟨_, rfl⟩
  rw [hX, hLA, hfin] at cg
  rw [hX, hLA] at cs
  rw [hX, hfin]
  refine ACall.enter hT (fn := Try.f61) Try.func61 rfl (by decide) (by simp [Try.f61]) rfl rfl rfl (hin2 _) (Nat.le_refl _) ?_
  unfold heapC at *
  repeat refine AWp.seq ?_
  refine AWp.reg1 {esc := [2, 3]} hT (fun A hA => by cbv) (Nat.le_of_ble_eq_true rfl) ?_
  try dsimp only [AExit.then, AExit.block]
  repeat refine AWp.seq ?_
  refine AWp.region ?_
  refine AOps.stepCall hT (an := {}) (fun A hA => by cbv) (Nat.le_of_ble_eq_true rfl) rfl (.inr rfl) rfl rfl rfl (Nat.le_of_ble_eq_true rfl) rfl rfl (cs) ?_
  refine AOps.done hT (an := {esc := [4]}) (fun A hA => by cbv) (Nat.le_of_ble_eq_true rfl) ?_
  try dsimp only [AExit.then, AExit.block]
  repeat refine AWp.seq ?_
  refine AWp.reg1 {esc := [5]} hT (fun A hA => by cbv) (Nat.le_of_ble_eq_true rfl) ?_
  try dsimp only [AExit.then, AExit.block]
  repeat refine AWp.seq ?_
  refine AWp.reg1 {} hT (fun A hA => by cbv) (Nat.le_of_ble_eq_true rfl) ?_
  try dsimp only [AExit.then, AExit.block]
  repeat refine AWp.seq ?_
  refine AWp.region ?_
  refine AOps.stepCallW hT (an := {}) (fun A hA => by cbv) (Nat.le_of_ble_eq_true rfl) (hin (.list 1 X) LA s) rfl rfl (Nat.le_of_ble_eq_true rfl) rfl rfl cg ?_
  refine AOps.done hT (an := {}) (fun A hA => by cbv) (Nat.le_of_ble_eq_true rfl) ?_
  try dsimp only [AExit.then, AExit.block]
  exact ⟨rfl, rfl, hin2 _, Nat.le_refl _, _, rfl⟩
end Go.Am
