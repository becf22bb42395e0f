/- Own text: D1vb. -/
import Derived.Test.YtalfdjihejohoaaD1va
import Derived.Test.YtalfdjihejohoaaD1c3
set_option maxRecDepth 100000
set_option linter.unusedVariables false
set_option linter.unusedSimpArgs false
namespace Go.Am
open Go Go.Proofs

def stO (o : Option (List Sta)) : LoopState := match o with | none => .ready | some _ => .done
def pdO (o : Option (List Sta)) : Option Code := match o with | none => none | some _ => some .ret
def laO (o : Option (List Sta)) : AV := match o with | none => .own 3 [] | some l => .d (.list 3 (l.map dSta))
/-- One circle: is the pair in it? -/
def circStep (p : Sta) (o : Option (List Sta)) (l : List Sta) : Option (List Sta) × Bool := if l.contains p then (some l, false) else (o, true)
theorem runY_circ (p : Sta) : ∀ (ls : List (List Sta)), (runY (circStep p) none ls).1 = ls.find? (·.contains p)
  | [] => rfl
  | l :: r => by
    unfold runY circStep
    rw [List.find?_cons]
    cases h : l.contains p with
    | true => rfl
    | false => exact runY_circ p r
/-- The answer of Circle. -/
def circT (x : List (List Acc)) (p : Sta) : List AV := if valid x then (if isPair x p then (match (circles x).find? (·.contains p) with | some l => [.d (.list 3 (l.map dSta)), AI 0] | none => [.d (.list 3 []), AI 5]) else [.d (.list 3 []), AI 2]) else [.d (.list 3 []), AI 90]

theorem Circle_ok (x : List (List Acc)) (p : Sta) (hx : Big x) : ACall P 33 [.d (dX x), .d (dSta p)] [] (.tuple (circT x p)) [] := by
  have cv := valid_ok x hx
  have hp : dSta p = .agg [I p.1, I p.2.1, I p.2.2] := rfl
  unfold circT
  cases hv : valid x with
  | false =>
    rw [hv] at cv
    obtain ⟨X, hX⟩ : ∃ X, dX x = X := ⟨_, rfl⟩
    rw [hX] at cv ⊢
    rw [hp]
    refine ACall.enterT hT (fn := Try.f33) Try.func33 rfl (by decide) (by simp [Try.f33]) rfl rfl rfl rfl (Nat.le_refl _) ?_
    refine AWpT.seq (AWpT.of ?_)
    repeat refine AWp.seq ?_
    refine AWp.reg1 {esc := [3, 4, 5]} hT (fun A hA => by cbv) (Nat.zero_le _) ?_
    try dsimp only [AExit.then, AExit.block]
    refine AWpT.seq (AWpT.of ?_)
    refine AWp.block ?_
    repeat refine AWp.seq ?_
    refine AWp.region ?_
    refine AOps.stepCall hT (an := {}) (fun A hA => by cbv) (Nat.zero_le _) rfl (.inr rfl) rfl rfl rfl (Nat.le_of_ble_eq_true rfl) rfl rfl (cv) ?_
    refine AOps.done hT (an := {}) (fun A hA => by cbv) (Nat.zero_le _) ?_
    try dsimp only [AExit.then, AExit.block]
    repeat refine AWp.seq ?_
    refine AWp.cond (b := true) rfl ?_
    rw [if_pos rfl]
    repeat refine AWp.seq ?_
    refine AWp.reg1 {} hT (fun A hA => by cbv) (Nat.zero_le _) ?_
    try dsimp only [AExit.then, AExit.block]
    repeat refine AWp.seq ?_
    refine AWp.ret ⟨?_, rfl, rfl, Nat.zero_le _, _, rfl⟩
    rfl
  | true =>
    have hs := valid_small hv
    rw [hv] at cv
    have cpr := isPair_ok x p hs
    rw [if_pos rfl]
    cases hpr : isPair x p with
    | false =>
      rw [hpr] at cpr
      obtain ⟨X, hX⟩ : ∃ X, dX x = X := ⟨_, rfl⟩
      rw [hX] at cv cpr ⊢
      rw [hp] at cpr ⊢
      refine ACall.enterT hT (fn := Try.f33) Try.func33 rfl (by decide) (by simp [Try.f33]) rfl rfl rfl rfl (Nat.le_refl _) ?_
      refine AWpT.seq (AWpT.of ?_)
      repeat refine AWp.seq ?_
      refine AWp.reg1 {esc := [3, 4, 5]} hT (fun A hA => by cbv) (Nat.zero_le _) ?_
      try dsimp only [AExit.then, AExit.block]
      refine AWpT.seq (AWpT.of ?_)
      refine AWp.block ?_
      repeat refine AWp.seq ?_
      refine AWp.region ?_
      refine AOps.stepCall hT (an := {}) (fun A hA => by cbv) (Nat.zero_le _) rfl (.inr rfl) rfl rfl rfl (Nat.le_of_ble_eq_true rfl) rfl rfl (cv) ?_
      refine AOps.done hT (an := {}) (fun A hA => by cbv) (Nat.zero_le _) ?_
      try dsimp only [AExit.then, AExit.block]
      refine AWp.cond (b := false) rfl ?_
      rw [if_neg Bool.false_ne_true]
      repeat refine AWp.seq ?_
      refine AWp.region ?_
      refine AOps.stepCall hT (an := {}) (fun A hA => by cbv) (Nat.zero_le _) rfl (.inr rfl) rfl rfl rfl (Nat.le_of_ble_eq_true rfl) rfl rfl (cpr) ?_
      refine AOps.done hT (an := {}) (fun A hA => by cbv) (Nat.zero_le _) ?_
      try dsimp only [AExit.then, AExit.block]
      repeat refine AWp.seq ?_
      refine AWp.cond (b := true) rfl ?_
      rw [if_pos rfl]
      repeat refine AWp.seq ?_
      refine AWp.reg1 {} hT (fun A hA => by cbv) (Nat.zero_le _) ?_
      try dsimp only [AExit.then, AExit.block]
      repeat refine AWp.seq ?_
      refine AWp.ret ⟨?_, rfl, rfl, Nat.zero_le _, _, rfl⟩
      rfl
    | true =>
      rw [hpr] at cpr
      rw [if_pos rfl]
      have hfin := runY_circ p (circles x)
      obtain ⟨fin, hfin'⟩ : ∃ o, (circles x).find? (·.contains p) = o := ⟨_, rfl⟩
      rw [hfin'] at hfin ⊢
      have hcont := fun l hl => contains_sta_ok l p hl
      have ccs := fun (A1 A2 A3 B : Option (List Sta) → Obj) hAB hy => circles_ok3 A1 A2 A3 B hAB (circStep p) x hs (fun o => o = none) (fun s l h1 h2 => by
        unfold circStep at h2 ⊢
        split at h2
        · cases h2
        · rename_i hn; rw [if_neg hn]; exact h1) hy none rfl
      simp only [hfin] at ccs
      obtain ⟨X, hX⟩ : ∃ X, dX x = X := ⟨_, rfl⟩
      rw [hX] at cv cpr ⊢
      rw [hp] at cpr ⊢
      simp only [hX] at ccs
      simp only [hp] at hcont
      refine ACall.enterT hT (fn := Try.f33) Try.func33 rfl (by decide) (by simp [Try.f33]) rfl rfl (by cases fin <;> rfl) rfl (Nat.le_refl _) ?_
      refine AWpT.seq (AWpT.of ?_)
      repeat refine AWp.seq ?_
      refine AWp.reg1 {esc := [3, 4, 5]} hT (fun A hA => by cbv) (Nat.zero_le _) ?_
      try dsimp only [AExit.then, AExit.block]
      refine AWpT.seq (AWpT.of ?_)
      refine AWp.block ?_
      repeat refine AWp.seq ?_
      refine AWp.region ?_
      refine AOps.stepCall hT (an := {}) (fun A hA => by cbv) (Nat.zero_le _) rfl (.inr rfl) rfl rfl rfl (Nat.le_of_ble_eq_true rfl) rfl rfl (cv) ?_
      refine AOps.done hT (an := {}) (fun A hA => by cbv) (Nat.zero_le _) ?_
      try dsimp only [AExit.then, AExit.block]
      refine AWp.cond (b := false) rfl ?_
      rw [if_neg Bool.false_ne_true]
      repeat refine AWp.seq ?_
      refine AWp.region ?_
      refine AOps.stepCall hT (an := {}) (fun A hA => by cbv) (Nat.zero_le _) rfl (.inr rfl) rfl rfl rfl (Nat.le_of_ble_eq_true rfl) rfl rfl (cpr) ?_
      refine AOps.done hT (an := {}) (fun A hA => by cbv) (Nat.zero_le _) ?_
      try dsimp only [AExit.then, AExit.block]
      repeat refine AWp.seq ?_
      refine AWp.cond (b := false) rfl (AWp.skip ?_)
      try dsimp only [AExit.then, AExit.block]
      refine AWpT.seq (AWpT.seq (AWpT.of ?_))
      repeat refine AWp.seq ?_
      refine AWp.reg1 {} hT (fun A hA => by cbv) (Nat.zero_le _) ?_
      try dsimp only [AExit.then, AExit.block]
      refine AWpT.block ?_
      refine AWpT.rangeFunc (st := stO fin) (pend := pdO fin) [3, 4, 5] rfl (Nat.zero_le _) ?_ ?_ ?_ (ccs (fun _ => .cells [AI p.1, AI p.2.1, AI p.2.2]) (fun o => .cells [laO o]) (fun _ => .cells [AI 0]) (fun o => .loop { st := stO o, pending := pdO o, env := _, n := _, params := _, assign := _, body := _ }) ?_ ?_) ?_ ?_ ?_
      · rfl
      · rfl
      · rfl
      · intro s k hk
        refine ⟨rfl, by cases s <;> rfl, rfl, ?_⟩
        show (decide (0 < k) && (decide (1 < k) && (decide (2 < k) && true))) = true
        simp; omega
      · rintro o l rfl hl
        unfold circStep
        have hcl := hcont l (by omega)
        obtain ⟨b, hb⟩ : ∃ b, l.contains p = b := ⟨_, rfl⟩
        have hpl := plain_ok l (by omega)
        rw [hb] at hcl ⊢
        obtain ⟨L, hL⟩ : ∃ L, l.map dSta = L := ⟨_, rfl⟩
        rw [hL] at hcl hpl ⊢
        cases b with
        | false =>
          refine YCall.mk (y := 3) rfl rfl rfl rfl rfl rfl (Nat.le_refl _) ?_
          repeat refine AWp.seq ?_
          refine AWp.reg1 {} hT (fun A hA => by cbv) (Nat.le_of_ble_eq_true rfl) ?_
          try dsimp only [AExit.then, AExit.block]
          refine ⟨rfl, rfl, ?_⟩
          repeat refine AWp.seq ?_
          refine AWp.block ?_
          repeat refine AWp.seq ?_
          refine AWp.region ?_
          refine AOps.stepCall hT (an := {}) (fun A hA => by cbv) (Nat.le_of_ble_eq_true rfl) rfl (.inr rfl) rfl rfl rfl (Nat.le_of_ble_eq_true rfl) rfl rfl (hcl) ?_
          refine AOps.done hT (an := {}) (fun A hA => by cbv) (Nat.le_of_ble_eq_true rfl) ?_
          try dsimp only [AExit.then, AExit.block]
          repeat refine AWp.seq ?_
          refine AWp.cond (b := false) rfl (AWp.skip ?_)
          try dsimp only [AExit.then, AExit.block]
          exact ⟨rfl, rfl, [], rfl⟩
        | true =>
          refine YCall.mk (y := 3) rfl rfl rfl rfl rfl rfl (Nat.le_refl _) ?_
          repeat refine AWp.seq ?_
          refine AWp.reg1 {} hT (fun A hA => by cbv) (Nat.le_of_ble_eq_true rfl) ?_
          try dsimp only [AExit.then, AExit.block]
          refine ⟨rfl, rfl, ?_⟩
          repeat refine AWp.seq ?_
          refine AWp.block ?_
          repeat refine AWp.seq ?_
          refine AWp.region ?_
          refine AOps.stepCall hT (an := {}) (fun A hA => by cbv) (Nat.le_of_ble_eq_true rfl) rfl (.inr rfl) rfl rfl rfl (Nat.le_of_ble_eq_true rfl) rfl rfl (hcl) ?_
          refine AOps.done hT (an := {}) (fun A hA => by cbv) (Nat.le_of_ble_eq_true rfl) ?_
          try dsimp only [AExit.then, AExit.block]
          repeat refine AWp.seq ?_
          refine AWp.cond (b := true) rfl ?_
          rw [if_pos rfl]
          repeat refine AWp.seq ?_
          refine AWp.region ?_
          refine AOps.stepCall hT (an := {}) (fun A hA => by cbv) (Nat.le_of_ble_eq_true rfl) rfl (.inr rfl) rfl rfl rfl (Nat.le_of_ble_eq_true rfl) rfl rfl (hpl) ?_
          refine AOps.done hT (an := {}) (fun A hA => by cbv) (Nat.le_of_ble_eq_true rfl) ?_
          try dsimp only [AExit.then, AExit.block]
          refine AWp.ret ?_
          refine ⟨rfl, rfl, [], ?_⟩
          show _ = [_, Obj.cells [.d (.list 3 (l.map dSta))], _, _]
          rw [hL]
          rfl
      · cases fin <;> simp [stO]
      · rfl
      · 
        cases fin with
        | none =>
          dsimp only [AWpT.behind, AExit.then, AExit.block, pdO]
          refine AWpT.of ?_
          repeat refine AWp.seq ?_
          refine AWp.reg1 {} hT (fun A hA => by cbv) (Nat.zero_le _) ?_
          try dsimp only [AExit.then, AExit.block]
          repeat refine AWp.seq ?_
          refine AWp.ret ⟨?_, rfl, rfl, Nat.zero_le _, _, rfl⟩
          rfl
        | some l =>
          dsimp only [AWpT.behind, AExit.then, AExit.block, pdO, laO]
          refine AWpT.of ?_
          repeat refine AWp.seq ?_
          refine AWp.ret ⟨?_, rfl, rfl, Nat.zero_le _, _, rfl⟩
          rfl
end Go.Am
