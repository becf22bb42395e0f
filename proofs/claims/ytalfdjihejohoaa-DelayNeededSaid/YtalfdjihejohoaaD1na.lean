/- Own text: D1na. -/
import Derived.Test.YtalfdjihejohoaaD1p3
import Derived.Test.YtalfdjihejohoaaD1s
import Derived.Test.YtalfdjihejohoaaD1c2
set_option maxRecDepth 100000
set_option linter.unusedVariables false
set_option linter.unusedSimpArgs false
namespace Go.Am
open Go Go.Proofs

/-- What a map holds behind a list of keys. -/
noncomputable def putAll (es : List (D × D)) (l : List Sta) : List (D × D) := l.foldl (fun es s => mput es (dSta s) (.bool true)) es
noncomputable def putStep (es : List (D × D)) (l : List Sta) : List (D × D) × Bool := (putAll es l, true)
theorem putAll_get (s : Sta) : ∀ (l : List Sta) (es : List (D × D)), mget (putAll es l) (dSta s) = if l.contains s then some (.bool true) else mget es (dSta s)
  | [], es => by simp [putAll]
  | u :: l, es => by
    have := putAll_get s l (mput es (dSta u) (.bool true))
    unfold putAll at this ⊢
    simp only [List.foldl_cons]
    rw [this, mget_mput]
    by_cases h : u = s
    · subst h; simp
    · have h2 : ¬ dSta u = dSta s := fun e => h (dSta_inj e)
      rw [if_neg h2]
      have h3 : (u :: l).contains s = l.contains s := by
        simp only [List.contains_cons]
        have : (s == u) = false := by simp; exact fun e => h e.symm
        rw [this]; rfl
      rw [h3]
theorem runY_put : ∀ (cs : List (List Sta)) (es : List (D × D)), runY putStep es cs = (putAll es cs.flatten, true)
  | [], es => by simp [runY, putAll]
  | l :: r, es => by
    simp only [runY, putStep, if_true, List.flatten_cons]
    rw [runY_put r (putAll es l)]
    unfold putAll
    rw [List.foldl_append]
def inCircle (x : List (List Acc)) (s : Sta) : Bool := (circles x).flatten.contains s
def neededL (x : List (List Acc)) : List Sta := (pairsL x).filter (inCircle x)

theorem pairs1_ok2 (x : List (List Acc)) (s : Sta) (hx : Small x) (o0 o1 : Obj) (h0 : o0.inb 4 = true) (h1 : o1.inb 4 = true) (L : List D) : ACall P 116 [.d (dSta s), .ptr 2 0] [o0, o1, .cells [.d (dX x)], .arr 3 L] (AB (!isPair x s)) [o0, o1, .cells [.d (dX x)], .arr 3 L] := by
  have cp := isPair_ok x s hx
  obtain ⟨t, a, b⟩ := s
  unfold dSta at *
  dsimp only at *
  obtain ⟨X, hX⟩ : ∃ X, dX x = X := ⟨_, rfl⟩
  obtain ⟨r, hr⟩ : ∃ r, isPair x (t, a, b) = r := ⟨_, rfl⟩
  rw [hX] at cp ⊢
  rw [hr] at cp ⊢
  have hin : objsInb 4 [o0, o1, .cells [.d X], .arr 3 L] = true := by simp only [objsInb, h0, h1]; rfl
  refine ACall.enter hT (fn := Try.f116) Try.func116 rfl (by decide) (by simp [Try.f116]) rfl rfl rfl hin (Nat.le_refl _) ?_
  repeat refine AWp.seq ?_
  refine AWp.reg1 {} hT (fun A hA => by cbv) (Nat.le_of_ble_eq_true rfl) ?_
  try dsimp only [AExit.then, AExit.block]
  repeat refine AWp.seq ?_
  refine AWp.region ?_
  refine AOps.stepCall hT (an := {}) (fun A hA => by cbv) (Nat.le_of_ble_eq_true rfl) rfl (.inr rfl) rfl rfl rfl (Nat.le_of_ble_eq_true rfl) rfl rfl (cp) ?_
  refine AOps.done hT (an := {}) (fun A hA => by cbv) (Nat.le_of_ble_eq_true rfl) ?_
  try dsimp only [AExit.then, AExit.block]
  refine AWp.ret ⟨rfl, rfl, hin, Nat.le_refl _, [], by simp⟩

/-- Pairs that may be changed, behind two objects. -/
theorem pairs_ok2 (x : List (List Acc)) (hx : Small x) (hlen : (stations x).length ≤ 4000000000) (hne : stations x ≠ []) (o0 o1 : Obj) (h0 : o0.inb 4 = true) (h1 : o1.inb 4 = true) (h0' : o0.inb 3 = true) (h1' : o1.inb 3 = true) (h0'' : o0.inb 2 = true) (h1'' : o1.inb 2 = true) :
    ∃ (m : Int) (tl : List D), ((pairsL x).length : Int) = m ∧ ACall P 73 [.d (dX x)] [o0, o1] (.mref 3 3 0 m) [o0, o1, .cells [.d (dX x)], .arr 3 ((pairsL x).map dSta ++ tl)] := by
  have cst := stations_ok x hx
  have hcl := fun s L => pairs1_ok2 x s hx o0 o1 h0 h1 L
  obtain ⟨p, hp⟩ : ∃ p, isPair x = p := ⟨_, rfl⟩
  obtain ⟨l, hl⟩ : ∃ l, stations x = l := ⟨_, rfl⟩
  unfold pairsL
  rw [hl] at cst hlen hne ⊢
  rw [hp] at hcl ⊢
  obtain ⟨X, hX⟩ : ∃ X, dX x = X := ⟨_, rfl⟩
  rw [hX] at cst hcl ⊢
  have hX2 : ∃ k Z, X = .list k Z := ⟨_, _, by rw [← hX]; rfl⟩
  obtain ⟨kx, Z, rfl⟩ := hX2
  obtain ⟨n, hn⟩ : ∃ n : Int, (l.length : Int) = n := ⟨_, rfl⟩
  obtain ⟨m, Y, hm0, hm1, hY, hde⟩ := delete98m3 l 116 [.ptr 2 0] o0 o1 (.cells [.d (.list kx Z)]) (fun s => !p s) h0 h1 rfl rfl rfl n hn (by omega) [] (fun s _ L => hcl s L)
  have hY' : Y.take m.toNat = (l.filter p).map dSta := by rw [hY]; simp
  have hm : ((l.filter p).length : Int) = m := by
    have := congrArg List.length hY'
    simp only [List.length_take, List.length_map] at this
    omega
  refine ⟨m, Y.drop m.toNat, hm, ?_⟩
  have hYY : (l.filter p).map dSta ++ Y.drop m.toNat = Y := by rw [← hY']; exact List.take_append_drop _ _
  rw [hYY]
  rw [List.append_nil] at hde
  have hin3 : objsInb 3 [o0, o1, .cells [.d (.list kx Z)]] = true := by simp only [objsInb, h0', h1']; rfl
  have hin4 : ∀ L, objsInb 4 [o0, o1, .cells [.d (.list kx Z)], .arr 3 L] = true := fun L => by simp only [objsInb, h0, h1]; rfl
  have hin2 : objsInb 2 [o0, o1] = true := by simp only [objsInb, h0'', h1'']; rfl
  have cth := ACall.thaw cst rfl rfl (by simpa using hne) (scalars_dSta l) (H := [o0, o1, .cells [.d (.list kx Z)]]) (hin4 _) (n := n) (by simpa using hn)
  obtain ⟨L, hL⟩ : ∃ L, l.map dSta = L := ⟨_, rfl⟩
  rw [hL] at cth hde
  refine ACall.enter hT (fn := Try.f73) Try.func73 rfl (by decide) (by simp [Try.f73]) rfl rfl rfl (hin4 Y) (Nat.le_of_ble_eq_true rfl) ?_
  repeat refine AWp.seq ?_
  refine AWp.reg1 {esc := [1]} hT (fun A hA => by cbv) (Nat.le_of_ble_eq_true rfl) ?_
  try dsimp only [AExit.then, AExit.block]
  repeat refine AWp.seq ?_
  refine AWp.region ?_
  have hin := hin3
  refine AOps.stepCallW hT (an := {}) (fun A hA => by cbv) (Nat.le_of_ble_eq_true rfl) (by first | rfl | exact hin) (by first | rfl | simp [inbL, AV.inb, hbs]) rfl (Nat.le_of_ble_eq_true rfl) rfl (by first | rfl | simp [AV.free, hbf]) (cth) ?_
  have hin := hin4 L
  refine AOps.stepCallW hT (an := {}) (fun A hA => by cbv) (Nat.le_of_ble_eq_true rfl) (by first | rfl | exact hin) (by first | rfl | simp [inbL, AV.inb, hbs]) rfl (Nat.le_of_ble_eq_true rfl) rfl (by first | rfl | simp [AV.free, hbf]) (hde) ?_
  refine AOps.done hT (an := {}) (fun A hA => by cbv) (Nat.le_of_ble_eq_true rfl) ?_
  try dsimp only [AExit.then, AExit.block]
  refine AWp.ret ⟨rfl, rfl, hin4 Y, Nat.le_of_ble_eq_true rfl, [], rfl⟩

theorem needed1_ok (s : Sta) (es : List (D × D)) (o2 : Obj) (h2 : o2.inb 4 = true) (L : List D) (b : Bool) (hb : mget es (dSta s) = if b then some (.bool true) else none) :
    ACall P 117 [.d (dSta s), .ptr 1 0] [.map true [.int .i64, .int .i64, .int .i64] es, .cells [.map 0], o2, .arr 3 L] (AB (!b)) [.map true [.int .i64, .int .i64, .int .i64] es, .cells [.map 0], o2, .arr 3 L] := by
  obtain ⟨t, a, c⟩ := s
  unfold dSta at *
  dsimp only at *
  have hin : objsInb 4 [.map true [.int .i64, .int .i64, .int .i64] es, .cells [.map 0], o2, .arr 3 L] = true := by simp only [objsInb, h2]; rfl
  have hget : ∀ A : Ar, A = Ar.std → A.mget es (.agg [I t, I a, I c]) = if b then some (.bool true) else none := fun A hA => by subst hA; exact hb
  refine ACall.enter hT (fn := Try.f117) Try.func117 rfl (by decide) (by simp [Try.f117]) rfl rfl rfl hin (Nat.le_refl _) ?_
  repeat refine AWp.seq ?_
  refine AWp.reg1 {} hT (fun A hA => by cbv) (Nat.le_of_ble_eq_true rfl) ?_
  try dsimp only [AExit.then, AExit.block]
  cases b with
  | true =>
    simp only [if_true] at hget
    repeat refine AWp.seq ?_
    refine AWp.reg1 {} hT (fun A hA => by
        have f0 := hget A hA
        repeat (cbv; simp only [f0])
        cbv) (Nat.le_of_ble_eq_true rfl) ?_
    try dsimp only [AExit.then, AExit.block]
    refine AWp.ret ⟨rfl, rfl, hin, Nat.le_refl _, [], by simp⟩
  | false =>
    simp only [Bool.false_eq_true, if_false] at hget
    repeat refine AWp.seq ?_
    refine AWp.reg1 {} hT (fun A hA => by
        have f0 := hget A hA
        repeat (cbv; simp only [f0])
        cbv) (Nat.le_of_ble_eq_true rfl) ?_
    try dsimp only [AExit.then, AExit.block]
    refine AWp.ret ⟨rfl, rfl, hin, Nat.le_refl _, [], by simp⟩
end Go.Am
