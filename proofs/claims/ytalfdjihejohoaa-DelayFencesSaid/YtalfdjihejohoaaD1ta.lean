/- Own text: D1na, D1nb, D1l, D1ta. -/
import Derived.Test.YtalfdjihejohoaaD1r
import Derived.Test.YtalfdjihejohoaaD1c2
set_option maxRecDepth 100000
set_option linter.unusedVariables false
set_option linter.unusedSimpArgs false
namespace Go.Am
open Go Go.Proofs

/-- What a map holds behind a list of keys. -/
noncomputable def putAll (es : List (D × D)) (l : List Sta) : List (D × D) := l.foldl (fun es s => mput es (dSta s) (.bool true)) es
noncomputable def putStep (es : List (D × D)) (l : List Sta) : List (D × D) × Bool := (putAll es l, true)
theorem putAll_get (s : Sta) : ∀ (l : List Sta) (es : List (D × D)), mget (putAll es l) (dSta s) = if l.contains s then some (.bool true) else mget es (dSta s)
  | [], es => by simp [putAll]
  | u :: l, es => by
    have := putAll_get s l (mput es (dSta u) (.bool true))
    unfold putAll at this ⊢
    simp only [List.foldl_cons]
    rw [this, mget_mput]
    by_cases h : u = s
    · subst h; simp
    · have h2 : ¬ dSta u = dSta s := fun e => h (dSta_inj e)
      rw [if_neg h2]
      have h3 : (u :: l).contains s = l.contains s := by
        simp only [List.contains_cons]
        have : (s == u) = false := by simp; exact fun e => h e.symm
        rw [this]; rfl
      rw [h3]
theorem runY_put : ∀ (cs : List (List Sta)) (es : List (D × D)), runY putStep es cs = (putAll es cs.flatten, true)
  | [], es => by simp [runY, putAll]
  | l :: r, es => by
    simp only [runY, putStep, if_true, List.flatten_cons]
    rw [runY_put r (putAll es l)]
    unfold putAll
    rw [List.foldl_append]
def inCircle (x : List (List Acc)) (s : Sta) : Bool := (circles x).flatten.contains s
def neededL (x : List (List Acc)) : List Sta := (pairsL x).filter (inCircle x)

theorem pairs1_ok2 (x : List (List Acc)) (s : Sta) (hx : Small x) (o0 o1 : Obj) (h0 : o0.inb 4 = true) (h1 : o1.inb 4 = true) (L : List D) : ACall P 116 [.d (dSta s), .ptr 2 0] [o0, o1, .cells [.d (dX x)], .arr 3 L] (AB (!isPair x s)) [o0, o1, .cells [.d (dX x)], .arr 3 L] := by
  have cp := isPair_ok x s hx
  obtain ⟨t, a, b⟩ := s
  unfold dSta at *
  dsimp only at *
  obtain ⟨X, hX⟩ : ∃ X, dX x = X := ⟨_, rfl⟩
  obtain ⟨r, hr⟩ : ∃ r, isPair x (t, a, b) = r := ⟨_, rfl⟩
  rw [hX] at cp ⊢
  rw [hr] at cp ⊢
  have hin : objsInb 4 [o0, o1, .cells [.d X], .arr 3 L] = true := by simp only [objsInb, h0, h1]; rfl
  refine ACall.enter hT (fn := Try.f116) Try.func116 rfl (by decide) (by simp [Try.f116]) rfl rfl rfl hin (Nat.le_refl _) ?_
  repeat refine AWp.seq ?_
  refine AWp.reg1 {} hT (fun A hA => by cbv) (Nat.le_of_ble_eq_true rfl) ?_
  try dsimp only [AExit.then, AExit.block]
  repeat refine AWp.seq ?_
  refine AWp.region ?_
  refine AOps.stepCall hT (an := {}) (fun A hA => by cbv) (Nat.le_of_ble_eq_true rfl) rfl (.inr rfl) rfl rfl rfl (Nat.le_of_ble_eq_true rfl) rfl rfl (cp) ?_
  refine AOps.done hT (an := {}) (fun A hA => by cbv) (Nat.le_of_ble_eq_true rfl) ?_
  try dsimp only [AExit.then, AExit.block]
  refine AWp.ret ⟨rfl, rfl, hin, Nat.le_refl _, [], by simp⟩

/-- Pairs that may be changed, behind two objects. -/
theorem pairs_ok2 (x : List (List Acc)) (hx : Small x) (hlen : (stations x).length ≤ 4000000000) (hne : stations x ≠ []) (o0 o1 : Obj) (h0 : o0.inb 4 = true) (h1 : o1.inb 4 = true) (h0' : o0.inb 3 = true) (h1' : o1.inb 3 = true) (h0'' : o0.inb 2 = true) (h1'' : o1.inb 2 = true) :
    ∃ (m : Int) (tl : List D), ((pairsL x).length : Int) = m ∧ ACall P 73 [.d (dX x)] [o0, o1] (.mref 3 3 0 m) [o0, o1, .cells [.d (dX x)], .arr 3 ((pairsL x).map dSta ++ tl)] := by
  have cst := stations_ok x hx
  have hcl := fun s L => pairs1_ok2 x s hx o0 o1 h0 h1 L
  obtain ⟨p, hp⟩ : ∃ p, isPair x = p := ⟨_, rfl⟩
  obtain ⟨l, hl⟩ : ∃ l, stations x = l := ⟨_, rfl⟩
  unfold pairsL
  rw [hl] at cst hlen hne ⊢
  rw [hp] at hcl ⊢
  obtain ⟨X, hX⟩ : ∃ X, dX x = X := ⟨_, rfl⟩
  rw [hX] at cst hcl ⊢
  have hX2 : ∃ k Z, X = .list k Z := ⟨_, _, by rw [← hX]; rfl⟩
  obtain ⟨kx, Z, rfl⟩ := hX2
  obtain ⟨n, hn⟩ : ∃ n : Int, (l.length : Int) = n := ⟨_, rfl⟩
  obtain ⟨m, Y, hm0, hm1, hY, hde⟩ := delete98m3 l 116 [.ptr 2 0] o0 o1 (.cells [.d (.list kx Z)]) (fun s => !p s) h0 h1 rfl rfl rfl n hn (by omega) [] (fun s _ L => hcl s L)
  have hY' : Y.take m.toNat = (l.filter p).map dSta := by rw [hY]; simp
  have hm : ((l.filter p).length : Int) = m := by
    have := congrArg List.length hY'
    simp only [List.length_take, List.length_map] at this
    omega
  refine ⟨m, Y.drop m.toNat, hm, ?_⟩
  have hYY : (l.filter p).map dSta ++ Y.drop m.toNat = Y := by rw [← hY']; exact List.take_append_drop _ _
  rw [hYY]
  rw [List.append_nil] at hde
  have hin3 : objsInb 3 [o0, o1, .cells [.d (.list kx Z)]] = true := by simp only [objsInb, h0', h1']; rfl
  have hin4 : ∀ L, objsInb 4 [o0, o1, .cells [.d (.list kx Z)], .arr 3 L] = true := fun L => by simp only [objsInb, h0, h1]; rfl
  have hin2 : objsInb 2 [o0, o1] = true := by simp only [objsInb, h0'', h1'']; rfl
  have cth := ACall.thaw cst rfl rfl (by simpa using hne) (scalars_dSta l) (H := [o0, o1, .cells [.d (.list kx Z)]]) (hin4 _) (n := n) (by simpa using hn)
  obtain ⟨L, hL⟩ : ∃ L, l.map dSta = L := ⟨_, rfl⟩
  rw [hL] at cth hde
  refine ACall.enter hT (fn := Try.f73) Try.func73 rfl (by decide) (by simp [Try.f73]) rfl rfl rfl (hin4 Y) (Nat.le_of_ble_eq_true rfl) ?_
  repeat refine AWp.seq ?_
  refine AWp.reg1 {esc := [1]} hT (fun A hA => by cbv) (Nat.le_of_ble_eq_true rfl) ?_
  try dsimp only [AExit.then, AExit.block]
  repeat refine AWp.seq ?_
  refine AWp.region ?_
  have hin := hin3
  refine AOps.stepCallW hT (an := {}) (fun A hA => by cbv) (Nat.le_of_ble_eq_true rfl) (by first | rfl | exact hin) (by first | rfl | simp [inbL, AV.inb, hbs]) rfl (Nat.le_of_ble_eq_true rfl) rfl (by first | rfl | simp [AV.free, hbf]) (cth) ?_
  have hin := hin4 L
  refine AOps.stepCallW hT (an := {}) (fun A hA => by cbv) (Nat.le_of_ble_eq_true rfl) (by first | rfl | exact hin) (by first | rfl | simp [inbL, AV.inb, hbs]) rfl (Nat.le_of_ble_eq_true rfl) rfl (by first | rfl | simp [AV.free, hbf]) (hde) ?_
  refine AOps.done hT (an := {}) (fun A hA => by cbv) (Nat.le_of_ble_eq_true rfl) ?_
  try dsimp only [AExit.then, AExit.block]
  refine AWp.ret ⟨rfl, rfl, hin4 Y, Nat.le_of_ble_eq_true rfl, [], rfl⟩

theorem needed1_ok (s : Sta) (es : List (D × D)) (o2 : Obj) (h2 : o2.inb 4 = true) (L : List D) (b : Bool) (hb : mget es (dSta s) = if b then some (.bool true) else none) :
    ACall P 117 [.d (dSta s), .ptr 1 0] [.map true [.int .i64, .int .i64, .int .i64] es, .cells [.map 0], o2, .arr 3 L] (AB (!b)) [.map true [.int .i64, .int .i64, .int .i64] es, .cells [.map 0], o2, .arr 3 L] := by
  obtain ⟨t, a, c⟩ := s
  unfold dSta at *
  dsimp only at *
  have hin : objsInb 4 [.map true [.int .i64, .int .i64, .int .i64] es, .cells [.map 0], o2, .arr 3 L] = true := by simp only [objsInb, h2]; rfl
  have hget : ∀ A : Ar, A = Ar.std → A.mget es (.agg [I t, I a, I c]) = if b then some (.bool true) else none := fun A hA => by subst hA; exact hb
  refine ACall.enter hT (fn := Try.f117) Try.func117 rfl (by decide) (by simp [Try.f117]) rfl rfl rfl hin (Nat.le_refl _) ?_
  repeat refine AWp.seq ?_
  refine AWp.reg1 {} hT (fun A hA => by cbv) (Nat.le_of_ble_eq_true rfl) ?_
  try dsimp only [AExit.then, AExit.block]
  cases b with
  | true =>
    simp only [if_true] at hget
    repeat refine AWp.seq ?_
    refine AWp.reg1 {} hT (fun A hA => by
        have f0 := hget A hA
        repeat (cbv; simp only [f0])
        cbv) (Nat.le_of_ble_eq_true rfl) ?_
    try dsimp only [AExit.then, AExit.block]
    refine AWp.ret ⟨rfl, rfl, hin, Nat.le_refl _, [], by simp⟩
  | false =>
    simp only [Bool.false_eq_true, if_false] at hget
    repeat refine AWp.seq ?_
    refine AWp.reg1 {} hT (fun A hA => by
        have f0 := hget A hA
        repeat (cbv; simp only [f0])
        cbv) (Nat.le_of_ble_eq_true rfl) ?_
    try dsimp only [AExit.then, AExit.block]
    refine AWp.ret ⟨rfl, rfl, hin, Nat.le_refl _, [], by simp⟩
end Go.Am

set_option maxRecDepth 100000
set_option linter.unusedVariables false
set_option linter.unusedSimpArgs false
namespace Go.Am
open Go Go.Proofs

abbrev kSta : List CK := [.int .i64, .int .i64, .int .i64]

theorem needed_ok (x : List (List Acc)) (hx : Small x) (hlen : (stations x).length ≤ 4000000000) : ACall P 77 [.d (dX x)] [] (.d (.list 3 ((neededL x).map dSta))) [] := by
  have ccs := fun (A1 A2 B : List (D × D) → Obj) hAB hy => circles_ok2 A1 A2 B hAB putStep x hx hy []
  have hget : ∀ s, mget (putAll [] (circles x).flatten) (dSta s) = if inCircle x s then some (.bool true) else none := fun s => by
    rw [putAll_get]; rfl
  have hrun := runY_put (circles x) []
  obtain ⟨es, hes⟩ : ∃ es, putAll [] (circles x).flatten = es := ⟨_, rfl⟩
  rw [hes] at hget hrun
  have hcl := fun s (o2 : Obj) (h2 : o2.inb 4 = true) L => needed1_ok s es o2 h2 L (inCircle x s) (hget s)
  have hnd : neededL x = (pairsL x).filter (inCircle x) := rfl
  rw [hnd]
  have hps : stations x ≠ [] → ∃ (m : Int) (tl : List D), ((pairsL x).length : Int) = m ∧ ACall P 73 [.d (dX x)] [.map true kSta es, .cells [.map 0]] (.mref 3 3 0 m) [.map true kSta es, .cells [.map 0], .cells [.d (dX x)], .arr 3 ((pairsL x).map dSta ++ tl)] :=
    fun hne => pairs_ok2 x hx hlen hne _ _ rfl rfl rfl rfl rfl rfl
  have hp0 : stations x = [] → ACall P 73 [.d (dX x)] [] (.d (.list 3 [])) [] ∧ pairsL x = [] := fun h => by
    have := pairs_ok x hx hlen
    have h2 : pairsL x = [] := by unfold pairsL; rw [h]; rfl
    rw [h2] at this
    exact ⟨this, h2⟩
  have hpl : (pairsL x).length ≤ 4000000000 := Nat.le_trans (List.length_filter_le _ _) hlen
  obtain ⟨pl, hpl'⟩ : ∃ pl, pairsL x = pl := ⟨_, rfl⟩
  rw [hpl'] at hps hp0 hpl ⊢
  obtain ⟨p, hp⟩ : ∃ p, inCircle x = p := ⟨_, rfl⟩
  rw [hp] at hcl ⊢
  simp only [hrun] at ccs
  obtain ⟨X, hX⟩ : ∃ X, dX x = X := ⟨_, rfl⟩
  rw [hX] at hps hp0 ⊢
  simp only [hX] at ccs
  have hX2 : ∃ k Z, X = .list k Z := ⟨_, _, by rw [← hX]; rfl⟩
  obtain ⟨kx, Z, rfl⟩ := hX2
  refine ACall.enterT hT (fn := Try.f77) Try.func77 rfl (by decide) (by simp [Try.f77]) rfl rfl rfl rfl (Nat.le_refl _) ?_
  refine AWpT.seq (AWpT.of ?_)
  repeat refine AWp.seq ?_
  refine AWp.reg1 {} hT (fun A hA => by cbv) (Nat.zero_le _) ?_
  try dsimp only [AExit.then, AExit.block]
  refine AWpT.seq (AWpT.of ?_)
  repeat refine AWp.seq ?_
  refine AWp.reg1 {esc := [3]} hT (fun A hA => by cbv) (Nat.zero_le _) ?_
  try dsimp only [AExit.then, AExit.block]
  refine AWpT.seq (AWpT.seq (AWpT.of ?_))
  repeat refine AWp.seq ?_
  refine AWp.reg1 {} hT (fun A hA => by cbv) (Nat.zero_le _) ?_
  try dsimp only [AExit.then, AExit.block]
  refine AWpT.block ?_
  refine AWpT.rangeFunc (st := .ready) (pend := none) [3] rfl (Nat.zero_le _) ?_ ?_ ?_ (ccs (fun es => .map true kSta es) (fun _ => .cells [.map 0]) (fun _ => .loop _) ?_ ?_) ?_ ?_ ?_
  · rfl
  · rfl
  · rfl
  · intro s k hk
    refine ⟨rfl, ?_, ?_⟩
    · show (decide (0 < k) && true) = true
      simp; omega
    · show (decide (1 < k) && true) = true
      simp; omega
  · intro es l hl
    obtain ⟨L, hL⟩ : ∃ L, l.map dSta = L := ⟨_, rfl⟩
    obtain ⟨n, hn⟩ : ∃ n : Int, (L.length : Int) = n := ⟨_, rfl⟩
    have hln : (l.length : Int) = n := by rw [← hn, ← hL]; simp
    have hpa : putAll es l = putAll es (l.take n.toNat) := by rw [List.take_of_length_le (by omega)]
    have hstep : ∀ (z : Nat) (s : Sta), l[z]? = some s → putAll es (l.take (z + 1)) = mput (putAll es (l.take z)) (dSta s) (.bool true) := fun z s hs => by
      rw [List.take_add_one, hs]
      unfold putAll
      rw [Option.toList_some, List.foldl_append]
      rfl
    unfold putStep
    dsimp only
    rw [hL, hpa]
    refine YCall.mk (y := 2) rfl rfl rfl rfl rfl rfl (Nat.le_refl _) ?_
    repeat refine AWp.seq ?_
    refine AWp.reg1 {} hT (fun A hA => by cbv) (Nat.le_of_ble_eq_true rfl) ?_
    try dsimp only [AExit.then, AExit.block]
    refine ⟨rfl, rfl, ?_⟩
    generalize hLB : Obj.loop { st := .busy, pending := _, env := _, n := _, params := _, assign := _, body := _ } = LB
    refine AWp.block ?_
    repeat refine AWp.seq ?_
    refine AWp.reg1 {} hT (fun A hA => by
        have f0 := ar_len hA L n hn
        repeat (cbv; simp only [f0])
        cbv) (Nat.le_of_ble_eq_true rfl) ?_
    try dsimp only [AExit.then, AExit.block]
    refine AWp.block (AWp.loopInv (ι := Int × List (D × D)) (fun p => 0 ≤ p.1 ∧ p.1 ≤ n ∧ p.2 = putAll es (l.take p.1.toNat)) (fun p => (n - p.1).toNat) [3, 11, 12, 13]
      (fun p => { env := [(3, .ptr 1 0), (11, .d (.list 3 L)), (12, AI n), (13, AI p.1)], heap := [.map true kSta p.2, .cells [.map 0], LB], n := 24 }) (0, es) (by cbv) ⟨Int.le_refl _, by dsimp only; omega, rfl⟩ ?_)
    rintro ⟨z, e⟩ ⟨h0, h1, h2⟩
    dsimp only at *
    by_cases hz : z < n
    · obtain ⟨z1, hz1⟩ : ∃ z1, z + 1 = z1 := ⟨_, rfl⟩
      obtain ⟨⟨a, b, c⟩, hs⟩ : ∃ s, l[z.toNat]? = some s := ⟨_, List.getElem?_eq_getElem (by omega)⟩
      have hLs : L[z.toNat]? = some (.agg [I a, I b, I c]) := by rw [← hL, List.getElem?_map, hs]; rfl
      obtain ⟨e', he'⟩ : ∃ e', mput e (.agg [I a, I b, I c]) (.bool true) = e' := ⟨_, rfl⟩
      have hput : ∀ A : Ar, A = Ar.std → A.mput e (.agg [I a, I b, I c]) (.bool true) = e' := fun A hA => by subst hA; exact he'
      repeat refine AWp.seq ?_
      refine AWp.reg1 {} hT (fun A hA => by
          have f0 := ar_lt hA hz
          repeat (cbv; simp only [f0])
          cbv) (Nat.le_of_ble_eq_true rfl) ?_
      try dsimp only [AExit.then, AExit.block]
      repeat refine AWp.seq ?_
      refine AWp.cond (b := true) rfl (AWp.skip ?_)
      try dsimp only [AExit.then, AExit.block]
      repeat refine AWp.seq ?_
      refine AWp.block ?_
      repeat refine AWp.seq ?_
      refine AWp.reg1 {} hT (fun A hA => by
          have f0 := ar_get hA hLs
          have f1 := ar_le hA h0
          repeat (cbv; simp only [f0, f1])
          cbv) (Nat.le_of_ble_eq_true rfl) ?_
      try dsimp only [AExit.then, AExit.block]
      repeat refine AWp.seq ?_
      refine AWp.reg1 {} hT (fun A hA => by
          have f0 := hput A hA
          repeat (cbv; simp only [f0])
          cbv) (Nat.le_of_ble_eq_true rfl) ?_
      try dsimp only [AExit.then, AExit.block]
      repeat refine AWp.seq ?_
      refine AWp.reg1 {} hT (fun A hA => by
          have f0 := ar_add hA z 1 z1 hz1 (by omega) (by omega)
          repeat (cbv; simp only [f0])
          cbv) (Nat.le_of_ble_eq_true rfl) ?_
      try dsimp only [AExit.then, AExit.block]
      refine ⟨(z1, e'), ⟨by dsimp only; omega, by dsimp only; omega, ?_⟩, by dsimp only; omega, by cbv⟩
      dsimp only
      rw [show z1.toNat = z.toNat + 1 by omega, hstep _ _ hs, ← h2, ← he']; rfl
    · repeat refine AWp.seq ?_
      refine AWp.reg1 {} hT (fun A hA => by
          have f0 := ar_nlt hA hz
          repeat (cbv; simp only [f0])
          cbv) (Nat.le_of_ble_eq_true rfl) ?_
      try dsimp only [AExit.then, AExit.block]
      repeat refine AWp.seq ?_
      refine AWp.cond (b := false) rfl (AWp.exit ?_)
      try dsimp only [AExit.then, AExit.block]
      rw [if_pos rfl]
      have : z = n := by omega
      subst this
      subst h2 hLB
      exact ⟨rfl, rfl, [], rfl⟩
  · simp
  · rfl
  · dsimp only [AWpT.behind, AExit.then, AExit.block]
    refine AWpT.of ?_
    refine AWp.fit [0, 3] 2 (Nat.zero_le _) rfl ?_
    by_cases he : stations x = []
    · obtain ⟨c73, hnil⟩ := hp0 he
      have hde := delete98e 117 [.ptr 1 0] [.map true kSta es, .cells [.map 0]] rfl rfl rfl
      rw [hnil]
      repeat refine AWp.seq ?_
      refine AWp.region ?_
      refine AOps.stepCall hT (an := {}) (fun A hA => by cbv) (Nat.zero_le _) rfl (.inr rfl) rfl rfl rfl (Nat.le_of_ble_eq_true rfl) rfl rfl (c73) ?_
      refine AOps.stepCallW hT (an := {}) (fun A hA => by cbv) (Nat.zero_le _) (by first | rfl | exact hin) (by first | rfl | simp [inbL, AV.inb, hbs]) rfl (Nat.le_of_ble_eq_true rfl) rfl (by first | rfl | simp [AV.free, hbf]) (hde) ?_
      refine AOps.done hT (an := {}) (fun A hA => by cbv) (Nat.zero_le _) ?_
      try dsimp only [AExit.then, AExit.block]
      repeat refine AWp.seq ?_
      refine AWp.ret ⟨?_, rfl, rfl, Nat.zero_le _, _, rfl⟩
      rfl
    · obtain ⟨m, tl, hm, c73⟩ := hps he
      obtain ⟨m', Y, hm0, hm1, hY, hde⟩ := delete98m3 pl 117 [.ptr 1 0] (.map true kSta es) (.cells [.map 0]) (.cells [.d (.list kx Z)]) (fun s => !p s) rfl rfl rfl rfl rfl m hm (by omega) tl (fun s _ L => hcl s _ rfl L)
      have hY' : Ar.std.sub Y 0 (0 + m') = (pl.filter p).map dSta := by
        rw [std_sub0 _ _ hm0, hY]; simp
      obtain ⟨R, hR⟩ : ∃ R, (pl.filter p).map dSta = R := ⟨_, rfl⟩
      obtain ⟨PL, hPL⟩ : ∃ R, pl.map dSta ++ tl = R := ⟨_, rfl⟩
      rw [hPL] at c73 hde
      rw [hR] at hY' ⊢
      repeat refine AWp.seq ?_
      refine AWp.region ?_
      refine AOps.stepCallW hT (an := {}) (fun A hA => by cbv) (Nat.zero_le _) (by first | rfl | exact hin) (by first | rfl | simp [inbL, AV.inb, hbs]) rfl (Nat.le_of_ble_eq_true rfl) rfl (by first | rfl | simp [AV.free, hbf]) (c73) ?_
      refine AOps.stepCallW hT (an := {}) (fun A hA => by cbv) (Nat.zero_le _) (by first | rfl | exact hin) (by first | rfl | simp [inbL, AV.inb, hbs]) rfl (Nat.le_of_ble_eq_true rfl) rfl (by first | rfl | simp [AV.free, hbf]) (hde) ?_
      refine AOps.done hT (an := {}) (fun A hA => by cbv) (Nat.zero_le _) ?_
      try dsimp only [AExit.then, AExit.block]
      refine AWp.freeze (s := 2) (i := 3) (k := 3) (lo := 0) (n := m') (l := Y) (l' := R) rfl rfl (by omega) hY' ?_
      refine AWp.ret ⟨rfl, rfl, rfl, Nat.zero_le _, _, rfl⟩
end Go.Am

set_option maxRecDepth 100000
set_option linter.unusedVariables false
set_option linter.unusedSimpArgs false
namespace Go.Am
open Go Go.Proofs

def x0 : List (List Acc) := [[(0, true), (1, false)], [(1, true), (0, false)]]
theorem nCirc_x0 : nCirc x0 = 2 := by kernel_rfl
theorem valid_x0 : valid x0 = true := by kernel_rfl
theorem awake_ok : ACall P 15 [] [] (AB true) [] := by
  have cc := Circles_ok x0 ⟨by decide, by decide⟩
  rw [valid_x0, if_pos rfl, nCirc_x0] at cc
  have cc' : ACall P 16 [.d (.list 1 [.list 2 [.agg [I 0, .bool true], .agg [I 1, .bool false]], .list 2 [.agg [I 1, .bool true], .agg [I 0, .bool false]]])] [] (.tuple [AI 2, AI 0]) [] := cc
  refine ACall.enter hT (fn := Try.f15) Try.func15 rfl (by decide) (by simp [Try.f15]) rfl rfl rfl rfl (Nat.le_refl _) ?_
  repeat refine AWp.seq ?_
  refine AWp.reg1 {} hT (fun A hA => by cbv) (Nat.zero_le _) ?_
  try dsimp only [AExit.then, AExit.block]
  repeat refine AWp.seq ?_
  refine AWp.region ?_
  refine AOps.stepCall hT (an := {}) (fun A hA => by cbv) (Nat.zero_le _) rfl (.inr rfl) rfl rfl rfl (Nat.le_of_ble_eq_true rfl) rfl rfl (cc') ?_
  refine AOps.done hT (an := {}) (fun A hA => by cbv) (Nat.zero_le _) ?_
  try dsimp only [AExit.then, AExit.block]
  repeat refine AWp.seq ?_
  refine AWp.reg1 {} hT (fun A hA => by
      have f0 := ar_eq hA (show (0 : Int) = 0 from rfl)
      have f1 := ar_eq hA (show (2 : Int) = 2 from rfl)
      repeat (cbv; simp only [f0, f1])
      cbv) (Nat.zero_le _) ?_
  try dsimp only [AExit.then, AExit.block]
  repeat refine AWp.seq ?_
  refine AWp.ret ⟨?_, rfl, rfl, Nat.zero_le _, _, rfl⟩
  rfl

/-- Without an access. -/
def lessL (l : List Acc) (a : Nat) : List Acc := l.take a ++ l.drop (a + 1)
def lessX (x : List (List Acc)) (t a : Nat) : List (List Acc) := (List.range x.length).map fun u => if u = t then lessL (x.getD u []) a else x.getD u []
theorem lessX_length (x : List (List Acc)) (t a : Nat) : (lessX x t a).length = x.length := by simp [lessX]
theorem lessL_sub (l : List Acc) (a : Nat) : ∀ c ∈ lessL l a, c ∈ l := fun c hc => by
  unfold lessL at hc
  rcases List.mem_append.1 hc with h | h
  · exact List.mem_of_mem_take h
  · exact List.mem_of_mem_drop h
theorem lessL_length (l : List Acc) (a : Nat) : (lessL l a).length ≤ l.length := by
  unfold lessL; simp; omega
theorem mem_lessX {x : List (List Acc)} {t a : Nat} {l : List Acc} (h : l ∈ lessX x t a) : ∃ l' ∈ x, l.length ≤ l'.length ∧ ∀ c ∈ l, c ∈ l' := by
  unfold lessX at h
  simp only [List.mem_map, List.mem_range] at h
  obtain ⟨u, hu, rfl⟩ := h
  refine ⟨x[u], List.getElem_mem hu, ?_⟩
  rw [List.getD_eq_getElem?_getD, List.getElem?_eq_getElem hu]
  simp only [Option.getD_some]
  split
  · exact ⟨lessL_length _ _, lessL_sub _ _⟩
  · exact ⟨Nat.le_refl _, fun _ h => h⟩
theorem valid_less {x : List (List Acc)} (h : valid x = true) (t a : Nat) : valid (lessX x t a) = true := by
  obtain ⟨h1, h2, h3⟩ := valid_sizes h
  unfold valid
  rw [lessX_length]
  have : (lessX x t a).any badL = false := List.any_eq_false.2 (fun l hl => by
    obtain ⟨l', hl', hle, hsub⟩ := mem_lessX hl
    obtain ⟨h4, h5⟩ := h3 l' hl'
    unfold badL
    have : l.any badAcc = false := List.any_eq_false.2 (fun c hc => by have := h5 c (hsub c hc); unfold badAcc; simp; omega)
    rw [this]; simp; omega)
  rw [this]
  simp; omega

theorem less_ok (x : List (List Acc)) (th ac : Int) (hx : Big x) (h1 : 0 ≤ th ∧ th < 256) (h2 : 0 ≤ ac ∧ ac < 256)
    (law1 : ∀ t a, valid x = true → nCirc (lessX x t a) ≤ nCirc x) (law2 : ∀ t a, valid x = true → nConf (lessX x t a) ≤ nConf x) :
    ACall P 3 [.d (dX x), .d (.int .u8 th), .d (.int .u8 ac)] [] (AB true) [] := by
  have cl := long_ok x hx
  have cv := validR_ok x hx
  have ca := awake_ok
  have cc1 := Circles_ok x hx
  have cf1 := conflicts_ok x hx (fun h => valid_small h)
  have hbig : ∀ t a, Big (lessX x t a) := fun t a => ⟨by rw [lessX_length]; exact hx.1, fun l hl => by
    obtain ⟨l', hl', hle, _⟩ := mem_lessX hl
    exact Nat.le_trans hle (hx.2 l' hl')⟩
  have cc2 := fun t a => Circles_ok (lessX x t a) (hbig t a)
  have cf2 := fun t a => conflicts_ok (lessX x t a) (hbig t a) (fun h => valid_small h)
  have hconv : ∀ A : Ar, A = Ar.std → A.wrp .i64 th = th := fun A hA => by subst hA; exact wrapI _ (by omega) (by omega)
  have hconv2 : ∀ A : Ar, A = Ar.std → A.wrp .i64 ac = ac := fun A hA => by subst hA; exact wrapI _ (by omega) (by omega)
  unfold dX at cl cv cc1 cf1 ⊢
  obtain ⟨X, hX⟩ : ∃ X, x.map dAccs = X := ⟨_, rfl⟩
  obtain ⟨n, hn⟩ : ∃ n : Int, (X.length : Int) = n := ⟨_, rfl⟩
  have hxl : (x.length : Int) = n := by rw [← hn, ← hX]; simp
  rw [hX] at cl cv cc1 cf1 ⊢
  refine ACall.enter hT (fn := Try.f3) Try.func3 rfl (by decide) (by simp [Try.f3]) rfl rfl rfl rfl (Nat.le_refl _) ?_
  repeat refine AWp.seq ?_
  refine AWp.reg1 {} hT (fun A hA => by cbv) (Nat.zero_le _) ?_
  try dsimp only [AExit.then, AExit.block]
  cases hlg : long x with
  | true =>
    rw [hlg] at cl
    repeat refine AWp.seq ?_
    refine AWp.region ?_
    refine AOps.stepCall hT (an := {}) (fun A hA => by cbv) (Nat.zero_le _) rfl (.inr rfl) rfl rfl rfl (Nat.le_of_ble_eq_true rfl) rfl rfl (cl) ?_
    refine AOps.done hT (an := {}) (fun A hA => by cbv) (Nat.zero_le _) ?_
    try dsimp only [AExit.then, AExit.block]
    repeat refine AWp.seq ?_
    refine AWp.cond (b := true) rfl ?_
    rw [if_pos rfl]
    repeat refine AWp.seq ?_
    refine AWp.region ?_
    refine AOps.stepCall hT (an := {}) (fun A hA => by cbv) (Nat.zero_le _) rfl (.inr rfl) rfl rfl rfl (Nat.le_of_ble_eq_true rfl) rfl rfl (ca) ?_
    refine AOps.done hT (an := {}) (fun A hA => by cbv) (Nat.zero_le _) ?_
    try dsimp only [AExit.then, AExit.block]
    repeat refine AWp.seq ?_
    refine AWp.ret ⟨?_, rfl, rfl, Nat.zero_le _, _, rfl⟩
    rfl
  | false =>
    rw [hlg] at cl
    cases hv : valid x with
    | false =>
      rw [hv] at cv
      repeat refine AWp.seq ?_
      refine AWp.region ?_
      refine AOps.stepCall hT (an := {}) (fun A hA => by cbv) (Nat.zero_le _) rfl (.inr rfl) rfl rfl rfl (Nat.le_of_ble_eq_true rfl) rfl rfl (cl) ?_
      refine AOps.stepCall hT (an := {}) (fun A hA => by cbv) (Nat.zero_le _) rfl (.inr rfl) rfl rfl rfl (Nat.le_of_ble_eq_true rfl) rfl rfl (cv) ?_
      refine AOps.done hT (an := {}) (fun A hA => by cbv) (Nat.zero_le _) ?_
      try dsimp only [AExit.then, AExit.block]
      repeat refine AWp.seq ?_
      refine AWp.cond (b := true) rfl ?_
      rw [if_pos rfl]
      repeat refine AWp.seq ?_
      refine AWp.region ?_
      refine AOps.stepCall hT (an := {}) (fun A hA => by cbv) (Nat.zero_le _) rfl (.inr rfl) rfl rfl rfl (Nat.le_of_ble_eq_true rfl) rfl rfl (ca) ?_
      refine AOps.done hT (an := {}) (fun A hA => by cbv) (Nat.zero_le _) ?_
      try dsimp only [AExit.then, AExit.block]
      repeat refine AWp.seq ?_
      refine AWp.ret ⟨?_, rfl, rfl, Nat.zero_le _, _, rfl⟩
      rfl
    | true =>
      obtain ⟨s1, s2, s3⟩ := valid_sizes hv
      rw [hv] at cv cc1 cf1
      rw [if_pos rfl] at cc1 cf1
      repeat refine AWp.seq ?_
      refine AWp.region ?_
      refine AOps.stepCall hT (an := {}) (fun A hA => by cbv) (Nat.zero_le _) rfl (.inr rfl) rfl rfl rfl (Nat.le_of_ble_eq_true rfl) rfl rfl (cl) ?_
      refine AOps.stepCall hT (an := {}) (fun A hA => by cbv) (Nat.zero_le _) rfl (.inr rfl) rfl rfl rfl (Nat.le_of_ble_eq_true rfl) rfl rfl (cv) ?_
      refine AOps.done hT (an := {}) (fun A hA => by cbv) (Nat.zero_le _) ?_
      try dsimp only [AExit.then, AExit.block]
      repeat refine AWp.seq ?_
      refine AWp.cond (b := false) rfl (AWp.skip ?_)
      try dsimp only [AExit.then, AExit.block]
      obtain ⟨t, ht⟩ : ∃ t, th.tmod n = t := ⟨_, rfl⟩
      have ht0 : 0 ≤ t := by rw [← ht]; exact Int.tmod_nonneg _ h1.1
      have htn : t < n := by rw [← ht]; exact Int.tmod_lt_of_pos _ (by omega)
      have hrem : ∀ A : Ar, A = Ar.std → A.rem th n = t := fun A hA => by subst hA; exact ht
      obtain ⟨L, hL⟩ : ∃ L, x[t.toNat]? = some L := ⟨_, List.getElem?_eq_getElem (by omega)⟩
      obtain ⟨L', hL'⟩ : ∃ L', L.map dAcc = L' := ⟨_, rfl⟩
      obtain ⟨k, hk⟩ : ∃ n : Int, (L'.length : Int) = n := ⟨_, rfl⟩
      have hkL : (L.length : Int) = k := by rw [← hk, ← hL']; simp
      have hXt : X[t.toNat]? = some (.list 2 L') := by rw [← hX, List.getElem?_map, hL, ← hL']; rfl
      have hk4 := (s3 L (List.mem_of_getElem? hL)).1
      repeat refine AWp.seq ?_
      refine AWp.reg1 {} hT (fun A hA => by
          have f0 := hconv A hA
          have f1 := ar_len hA X n hn
          have f2 := ar_ne hA (show ¬ n = 0 by omega)
          have f3 := hrem A hA
          repeat (cbv; simp only [f0, f1, f2, f3])
          cbv) (Nat.zero_le _) ?_
      try dsimp only [AExit.then, AExit.block]
      by_cases hk0 : k = 0
      · repeat refine AWp.seq ?_
        refine AWp.reg1 {} hT (fun A hA => by
            have f0 := ar_get hA hXt
            have f1 := ar_le hA ht0
            have f2 := ar_len hA L' k hk
            have f3 := ar_eq hA hk0
            repeat (cbv; simp only [f0, f1, f2, f3])
            cbv) (Nat.zero_le _) ?_
        try dsimp only [AExit.then, AExit.block]
        repeat refine AWp.seq ?_
        refine AWp.cond (b := true) rfl ?_
        rw [if_pos rfl]
        repeat refine AWp.seq ?_
        refine AWp.region ?_
        refine AOps.stepCall hT (an := {}) (fun A hA => by cbv) (Nat.zero_le _) rfl (.inr rfl) rfl rfl rfl (Nat.le_of_ble_eq_true rfl) rfl rfl (ca) ?_
        refine AOps.done hT (an := {}) (fun A hA => by cbv) (Nat.zero_le _) ?_
        try dsimp only [AExit.then, AExit.block]
        repeat refine AWp.seq ?_
        refine AWp.ret ⟨?_, rfl, rfl, Nat.zero_le _, _, rfl⟩
        rfl
      · repeat refine AWp.seq ?_
        refine AWp.reg1 {} hT (fun A hA => by
            have f0 := ar_get hA hXt
            have f1 := ar_le hA ht0
            have f2 := ar_len hA L' k hk
            have f3 := ar_ne hA hk0
            repeat (cbv; simp only [f0, f1, f2, f3])
            cbv) (Nat.zero_le _) ?_
        try dsimp only [AExit.then, AExit.block]
        repeat refine AWp.seq ?_
        refine AWp.cond (b := false) rfl (AWp.skip ?_)
        try dsimp only [AExit.then, AExit.block]
        obtain ⟨a, ha⟩ : ∃ t, ac.tmod k = t := ⟨_, rfl⟩
        have ha0 : 0 ≤ a := by rw [← ha]; exact Int.tmod_nonneg _ h2.1
        have hak : a < k := by rw [← ha]; exact Int.tmod_lt_of_pos _ (by omega)
        have hrem2 : ∀ A : Ar, A = Ar.std → A.rem ac k = a := fun A hA => by subst hA; exact ha
        repeat refine AWp.seq ?_
        refine AWp.reg1 {} hT (fun A hA => by
            have f0 := hconv2 A hA
            have f1 := ar_get hA hXt
            have f2 := ar_le hA ht0
            have f3 := ar_len hA L' k hk
            have f4 := ar_ne hA hk0
            have f5 := hrem2 A hA
            repeat (cbv; simp only [f0, f1, f2, f3, f4, f5])
            cbv) (Nat.zero_le _) ?_
        try dsimp only [AExit.then, AExit.block]
        let g : Nat → List Acc := fun u => if u = t.toNat then lessL (x.getD u []) a.toNat else x.getD u []
        have hg : ∀ u, g u = if u = t.toNat then lessL (x.getD u []) a.toNat else x.getD u [] := fun u => rfl
        have hless : lessX x t.toNat a.toNat = (List.range x.length).map g := rfl
        repeat refine AWp.seq ?_
        refine AWp.reg1 {} hT (fun A hA => by cbv) (Nat.zero_le _) ?_
        try dsimp only [AExit.then, AExit.block]
        repeat refine AWp.seq ?_
        refine AWp.reg1 {} hT (fun A hA => by
            have f0 := ar_len hA X n hn
            repeat (cbv; simp only [f0])
            cbv) (Nat.zero_le _) ?_
        try dsimp only [AExit.then, AExit.block]
        refine AWp.block (AWp.loopInv (ι := Int × List D) (fun p => 0 ≤ p.1 ∧ p.1 ≤ n ∧ p.2 = ((List.range p.1.toNat).map g).map dAccs) (fun p => (n - p.1).toNat) [0, 7, 8, 9, 48, 49, 50]
          (fun p => { env := [(0, .d (.list 1 X)), (7, AI t), (8, AI a), (9, .own 1 p.2), (48, .d (.list 1 X)), (49, AI n), (50, AI p.1)], heap := [], n := 120 }) (0, []) (by cbv) ⟨Int.le_refl _, by omega, rfl⟩ ?_)
        rintro ⟨z, l⟩ ⟨g0, g1, hl⟩
        dsimp only at *
        by_cases hz : z < n
        · obtain ⟨Lz, hLz⟩ : ∃ L, x[z.toNat]? = some L := ⟨_, List.getElem?_eq_getElem (by omega)⟩
          obtain ⟨M, hM⟩ : ∃ L', Lz.map dAcc = L' := ⟨_, rfl⟩
          have hXz : X[z.toNat]? = some (.list 2 M) := by rw [← hX, List.getElem?_map, hLz, ← hM]; rfl
          have hgz : x.getD z.toNat [] = Lz := by rw [List.getD_eq_getElem?_getD, hLz]; rfl
          have hll : (l.length : Int) = z := by rw [hl]; simp; omega
          obtain ⟨z1, hz1⟩ : ∃ z1, z + 1 = z1 := ⟨_, rfl⟩
          have hnext : ∀ l2, l ++ [dAccs (g z.toNat)] = l2 → l2 = ((List.range z1.toNat).map g).map dAccs := fun l2 h => by
            rw [← h, show z1.toNat = z.toNat + 1 by omega, List.range_succ, List.map_append, List.map_append, ← hl]; rfl
          repeat refine AWp.seq ?_
          refine AWp.reg1 {} hT (fun A hA => by
              have f0 := ar_lt hA hz
              repeat (cbv; simp only [f0])
              cbv) (Nat.zero_le _) ?_
          try dsimp only [AExit.then, AExit.block]
          repeat refine AWp.seq ?_
          refine AWp.cond (b := true) rfl (AWp.skip ?_)
          try dsimp only [AExit.then, AExit.block]
          repeat refine AWp.seq ?_
          refine AWp.block ?_
          repeat refine AWp.seq ?_
          refine AWp.reg1 {} hT (fun A hA => by
              have f0 := ar_get hA hXz
              have f1 := ar_le hA g0
              repeat (cbv; simp only [f0, f1])
              cbv) (Nat.zero_le _) ?_
          try dsimp only [AExit.then, AExit.block]
          by_cases hzt : z = t
          · have hLL : Lz = L := by rw [hzt, hL] at hLz; injection hLz with h; exact h.symm
            have hMk : (M.length : Int) = k := by rw [← hM, hLL]; simpa using hkL
            have hgt : g z.toNat = Lz.take a.toNat ++ Lz.drop (a.toNat + 1) := by rw [hg, if_pos (by omega), hgz]; rfl
            obtain ⟨M1, hM1⟩ : ∃ M1, M.take a.toNat = M1 := ⟨_, rfl⟩
            obtain ⟨M2, hM2⟩ : ∃ M2, M.drop (a.toNat + 1) = M2 := ⟨_, rfl⟩
            obtain ⟨M3, hM3⟩ : ∃ M3, M1 ++ M2 = M3 := ⟨_, rfl⟩
            obtain ⟨a1, ha1⟩ : ∃ z1, a + 1 = z1 := ⟨_, rfl⟩
            have e1 : M1.length ≤ 4 := by rw [← hM1]; simp; omega
            have e2 : M2.length ≤ 4 := by rw [← hM2]; simp; omega
            have hs1 : ∀ A : Ar, A = Ar.std → A.sub M 0 a = M1 := fun A hA => by subst hA; rw [← hM1]; simp [Ar.std]
            have hs2 : ∀ A : Ar, A = Ar.std → A.sub M a1 k = M2 := fun A hA => by
              subst hA; rw [← hM2]
              show (M.drop a1.toNat).take (k.toNat - a1.toNat) = _
              rw [show a1.toNat = a.toNat + 1 by omega, List.take_of_length_le (by simp; omega)]
            obtain ⟨l2, hl2⟩ : ∃ l2, l ++ [.list 2 M3] = l2 := ⟨_, rfl⟩
            have hl3 := hnext l2 (by
              rw [← hl2, hgt]
              unfold dAccs
              rw [List.map_append, List.map_take, List.map_drop, hM, hM1, hM2, hM3])
            repeat refine AWp.seq ?_
            refine AWp.reg1 {} hT (fun A hA => by
                have f0 := ar_eq hA hzt
                repeat (cbv; simp only [f0])
                cbv) (Nat.zero_le _) ?_
            try dsimp only [AExit.then, AExit.block]
            repeat refine AWp.seq ?_
            refine AWp.cond (b := true) rfl ?_
            rw [if_pos rfl]
            repeat refine AWp.seq ?_
            refine AWp.reg1D {} hT rfl (fun A hA => by
                have f0 := ar_len hA M k hMk
                have f1 := ar_le hA (Int.le_refl 0)
                have f2 := ar_le hA ha0
                have f3 := ar_le hA (show a ≤ k by omega)
                have f4 := hs1 A hA
                have f5 := ar_app hA [] M1 M1 rfl
                have f6 := ar_fits hA [] M1 (by simp; omega)
                have f7 := ar_add hA a 1 a1 ha1 (by omega) (by omega)
                have f8 := ar_le hA (show 0 ≤ a1 by omega)
                have f9 := ar_le hA (show a1 ≤ k by omega)
                have f10 := ar_le hA (Int.le_refl k)
                have f11 := hs2 A hA
                have f12 := ar_app hA _ _ _ hM3
                have f13 := ar_fits hA M1 M2 (by omega)
                repeat (cbv; simp only [f0, f1, f2, f3, f4, f5, f6, f7, f8, f9, f10, f11, f12, f13])
                cbv) (by kernel_rfl) (Nat.zero_le _) ?_
            try dsimp only [AExit.then, AExit.block]
            repeat refine AWp.seq ?_
            refine AWp.reg1 {tk := [9, 68, 71]} hT (fun A hA => by
                have f0 := ar_app hA _ _ _ hl2
                have f1 := ar_fits hA l [.list 2 M3] (by simp; omega)
                repeat (cbv; simp only [f0, f1])
                cbv) (Nat.zero_le _) ?_
            try dsimp only [AExit.then, AExit.block]
            repeat refine AWp.seq ?_
            refine AWp.reg1 {} hT (fun A hA => by
                have f0 := ar_add hA z 1 z1 hz1 (by omega) (by omega)
                repeat (cbv; simp only [f0])
                cbv) (Nat.zero_le _) ?_
            try dsimp only [AExit.then, AExit.block]
            exact ⟨(z1, l2), ⟨by dsimp only; omega, by dsimp only; omega, hl3⟩, by dsimp only; omega, by cbv⟩
          · have hgt : g z.toNat = Lz := by rw [hg, if_neg (by omega), hgz]
            obtain ⟨l2, hl2⟩ : ∃ l2, l ++ [.list 2 M] = l2 := ⟨_, rfl⟩
            have hl3 := hnext l2 (by
              rw [← hl2, hgt]
              unfold dAccs
              rw [hM])
            repeat refine AWp.seq ?_
            refine AWp.reg1 {} hT (fun A hA => by
                have f0 := ar_ne hA hzt
                repeat (cbv; simp only [f0])
                cbv) (Nat.zero_le _) ?_
            try dsimp only [AExit.then, AExit.block]
            repeat refine AWp.seq ?_
            refine AWp.cond (b := false) rfl (AWp.skip ?_)
            try dsimp only [AExit.then, AExit.block]
            repeat refine AWp.seq ?_
            refine AWp.reg1 {tk := [9, 68, 71]} hT (fun A hA => by
                have f0 := ar_app hA _ _ _ hl2
                have f1 := ar_fits hA l [.list 2 M] (by simp; omega)
                repeat (cbv; simp only [f0, f1])
                cbv) (Nat.zero_le _) ?_
            try dsimp only [AExit.then, AExit.block]
            repeat refine AWp.seq ?_
            refine AWp.reg1 {} hT (fun A hA => by
                have f0 := ar_add hA z 1 z1 hz1 (by omega) (by omega)
                repeat (cbv; simp only [f0])
                cbv) (Nat.zero_le _) ?_
            try dsimp only [AExit.then, AExit.block]
            exact ⟨(z1, l2), ⟨by dsimp only; omega, by dsimp only; omega, hl3⟩, by dsimp only; omega, by cbv⟩
        · have hc2 := cc2 t.toNat a.toNat
          have hf2 := cf2 t.toNat a.toNat
          have hl1 := law1 t.toNat a.toNat hv
          have hl2 := law2 t.toNat a.toNat hv
          rw [valid_less hv, if_pos rfl] at hc2 hf2
          unfold dX at hc2 hf2
          rw [hless, show x.length = z.toNat by omega, ← hl] at hc2 hf2
          rw [hless, show x.length = z.toNat by omega] at hl1 hl2
          obtain ⟨N, hN⟩ : ∃ N : Int, (nCirc x : Int) = N := ⟨_, rfl⟩
          obtain ⟨N2, hN2⟩ : ∃ N : Int, (nCirc ((List.range z.toNat).map g) : Int) = N := ⟨_, rfl⟩
          obtain ⟨Q, hQ⟩ : ∃ N : Int, (nConf x : Int) = N := ⟨_, rfl⟩
          obtain ⟨Q2, hQ2⟩ : ∃ N : Int, (nConf ((List.range z.toNat).map g) : Int) = N := ⟨_, rfl⟩
          rw [hN] at cc1
          rw [hN2] at hc2
          rw [hQ] at cf1
          rw [hQ2] at hf2
          repeat refine AWp.seq ?_
          refine AWp.reg1 {} hT (fun A hA => by
              have f0 := ar_nlt hA hz
              repeat (cbv; simp only [f0])
              cbv) (Nat.zero_le _) ?_
          try dsimp only [AExit.then, AExit.block]
          repeat refine AWp.seq ?_
          refine AWp.cond (b := false) rfl (AWp.exit ?_)
          try dsimp only [AExit.then, AExit.block]
          rw [if_pos rfl]
          repeat refine AWp.seq ?_
          refine AWp.region ?_
          refine AOps.stepCall hT (an := {}) (fun A hA => by cbv) (Nat.zero_le _) rfl (.inr rfl) rfl rfl rfl (Nat.le_of_ble_eq_true rfl) rfl rfl (cc1) ?_
          refine AOps.done hT (an := {}) (fun A hA => by cbv) (Nat.zero_le _) ?_
          try dsimp only [AExit.then, AExit.block]
          repeat refine AWp.seq ?_
          refine AWp.region ?_
          refine AOps.stepCall hT (an := {}) (fun A hA => by cbv) (Nat.zero_le _) rfl (.inr rfl) rfl rfl rfl (Nat.le_of_ble_eq_true rfl) rfl rfl (hc2) ?_
          refine AOps.done hT (an := {}) (fun A hA => by cbv) (Nat.zero_le _) ?_
          try dsimp only [AExit.then, AExit.block]
          repeat refine AWp.seq ?_
          refine AWp.region ?_
          refine AOps.stepCall hT (an := {}) (fun A hA => by cbv) (Nat.zero_le _) rfl (.inr rfl) rfl rfl rfl (Nat.le_of_ble_eq_true rfl) rfl rfl (cf1) ?_
          refine AOps.done hT (an := {}) (fun A hA => by cbv) (Nat.zero_le _) ?_
          try dsimp only [AExit.then, AExit.block]
          repeat refine AWp.seq ?_
          refine AWp.region ?_
          refine AOps.stepCall hT (an := {}) (fun A hA => by cbv) (Nat.zero_le _) rfl (.inr rfl) rfl rfl rfl (Nat.le_of_ble_eq_true rfl) rfl rfl (hf2) ?_
          refine AOps.done hT (an := {}) (fun A hA => by cbv) (Nat.zero_le _) ?_
          try dsimp only [AExit.then, AExit.block]
          repeat refine AWp.seq ?_
          refine AWp.region ?_
          refine AOps.stepCall hT (an := {}) (fun A hA => by
              have f0 := ar_eq hA (show (0 : Int) = 0 from rfl)
              have f1 := ar_le hA (show N2 ≤ N by omega)
              have f2 := ar_le hA (show Q2 ≤ Q by omega)
              repeat (cbv; simp only [f0, f1, f2])
              cbv) (Nat.zero_le _) rfl (.inr rfl) rfl rfl rfl (Nat.le_of_ble_eq_true rfl) rfl rfl (ca) ?_
          refine AOps.done hT (an := {}) (fun A hA => by cbv) (Nat.zero_le _) ?_
          try dsimp only [AExit.then, AExit.block]
          repeat refine AWp.seq ?_
          refine AWp.ret ⟨?_, rfl, rfl, Nat.zero_le _, _, rfl⟩
          rfl
end Go.Am

set_option maxRecDepth 100000
set_option linter.unusedVariables false
set_option linter.unusedSimpArgs false
namespace Go.Am
open Go Go.Proofs

theorem clone_ok (l : List Acc) (hl : l.length ≤ 1000) : ACall P 75 [.d (dAccs l)] [] (.own 2 (l.map dAcc)) [] := by
  unfold dAccs
  by_cases h0 : l = []
  · subst h0
    have e1 : ¬ (0 : Int) < 0 := by omega
    simp only [List.map_nil]
    refine ACall.enter hT (fn := Try.f75) Try.func75 rfl (by decide) (by simp [Try.f75]) rfl rfl rfl rfl (Nat.le_refl _) ?_
    repeat refine AWp.seq ?_
    refine AWp.reg1 {} hT (fun A hA => by cbv) (Nat.zero_le _) ?_
    try dsimp only [AExit.then, AExit.block]
    repeat refine AWp.seq ?_
    refine AWp.reg1 {} hT (fun A hA => by
        have f0 := ar_len hA [] 0 rfl
        have f1 := ar_nlt hA e1
        repeat (cbv; simp only [f0, f1])
        cbv) (Nat.zero_le _) ?_
    try dsimp only [AExit.then, AExit.block]
    repeat refine AWp.seq ?_
    refine AWp.condAny rfl ?_ (AWp.skip ?_)
    · repeat refine AWp.seq ?_
      refine AWp.reg1 {} hT (fun A hA => by cbv) (Nat.zero_le _) ?_
      try dsimp only [AExit.then, AExit.block]
      repeat refine AWp.seq ?_
      refine AWp.ret ⟨?_, rfl, rfl, Nat.zero_le _, _, rfl⟩
      rfl
    · dsimp only [AExit.then, AExit.block]
      repeat refine AWp.seq ?_
      refine AWp.reg1 {tk := [5, 7]} hT (fun A hA => by
          have f0 := ar_app hA [] [] [] rfl
          have f1 := ar_fits hA [] [] (by simp)
          repeat (cbv; simp only [f0, f1])
          cbv) (Nat.zero_le _) ?_
      try dsimp only [AExit.then, AExit.block]
      repeat refine AWp.seq ?_
      refine AWp.ret ⟨?_, rfl, rfl, Nat.zero_le _, _, rfl⟩
      rfl
  · obtain ⟨X, hX⟩ : ∃ X, l.map dAcc = X := ⟨_, rfl⟩
    obtain ⟨n, hn⟩ : ∃ n : Int, (X.length : Int) = n := ⟨_, rfl⟩
    have hln : (l.length : Int) = n := by rw [← hn, ← hX]; simp
    have hpos : 0 < l.length := List.length_pos_iff.2 h0
    rw [hX]
    refine ACall.enter hT (fn := Try.f75) Try.func75 rfl (by decide) (by simp [Try.f75]) rfl rfl rfl rfl (Nat.le_refl _) ?_
    repeat refine AWp.seq ?_
    refine AWp.reg1 {} hT (fun A hA => by cbv) (Nat.zero_le _) ?_
    try dsimp only [AExit.then, AExit.block]
    repeat refine AWp.seq ?_
    refine AWp.reg1 {} hT (fun A hA => by
        have f0 := ar_len hA X n hn
        have f1 := ar_lt hA (show (0 : Int) < n by omega)
        repeat (cbv; simp only [f0, f1])
        cbv) (Nat.zero_le _) ?_
    try dsimp only [AExit.then, AExit.block]
    repeat refine AWp.seq ?_
    refine AWp.cond (b := false) rfl (AWp.skip ?_)
    try dsimp only [AExit.then, AExit.block]
    repeat refine AWp.seq ?_
    refine AWp.reg1 {tk := [5, 7]} hT (fun A hA => by
        have f0 := ar_app hA [] X X rfl
        have f1 := ar_fits hA [] X (by simp; omega)
        repeat (cbv; simp only [f0, f1])
        cbv) (Nat.zero_le _) ?_
    try dsimp only [AExit.then, AExit.block]
    repeat refine AWp.seq ?_
    refine AWp.ret ⟨?_, rfl, rfl, Nat.zero_le _, _, rfl⟩
    rfl

theorem reverse0_ok : ACall P 76 [.d (.list 2 [])] [] (.tuple []) [] := by
  have e1 : ¬ (0 : Int) < -1 := by omega
  refine ACall.enter hT (fn := Try.f76) Try.func76 rfl (by decide) (by simp [Try.f76]) rfl rfl rfl rfl (Nat.le_refl _) ?_
  repeat refine AWp.seq ?_
  refine AWp.reg1 {} hT (fun A hA => by
      have f0 := ar_len hA [] 0 rfl
      have f1 := ar_sub hA 0 1 (-1) rfl (by omega) (by omega)
      repeat (cbv; simp only [f0, f1])
      cbv) (Nat.zero_le _) ?_
  try dsimp only [AExit.then, AExit.block]
  refine AWp.block (AWp.loopInv (ι := Unit) (fun _ => True) (fun z => 0) [0, 2, 3]
    (fun z => { env := [(0, .d (.list 2 [])), (2, AI 0), (3, AI (-1))], heap := [], n := 28 }) () (by cbv) trivial ?_)
  rintro _ _
  repeat refine AWp.seq ?_
  refine AWp.reg1 {} hT (fun A hA => by
      have f0 := ar_nlt hA e1
      repeat (cbv; simp only [f0])
      cbv) (Nat.zero_le _) ?_
  try dsimp only [AExit.then, AExit.block]
  repeat refine AWp.seq ?_
  refine AWp.cond (b := false) rfl (AWp.exit ?_)
  try dsimp only [AExit.then, AExit.block]
  rw [if_pos rfl]
  exact ⟨rfl, rfl, rfl, Nat.zero_le _, [], rfl⟩

theorem reverse_ok (x : List Acc) (n : Int) (hn : (x.length : Int) = n) (h1 : 1 ≤ n) (h2 : n ≤ 1000) : ACall P 76 [.mref 0 2 0 n] [.arr 2 (x.map dAcc)] (.tuple []) [.arr 2 (x.reverse.map dAcc)] := by
  obtain ⟨X, hX⟩ : ∃ X, x.map dAcc = X := ⟨_, rfl⟩
  obtain ⟨Y, hY⟩ : ∃ X, x.reverse.map dAcc = X := ⟨_, rfl⟩
  obtain ⟨m, hm⟩ : ∃ m, n - 1 = m := ⟨_, rfl⟩
  rw [hX, hY]
  refine ACall.enter hT (fn := Try.f76) Try.func76 rfl (by decide) (by simp [Try.f76]) rfl rfl rfl rfl (Nat.le_refl _) ?_
  repeat refine AWp.seq ?_
  refine AWp.reg1 {} hT (fun A hA => by
      have f0 := ar_sub hA n 1 m hm (by omega) (by omega)
      repeat (cbv; simp only [f0])
      cbv) (Nat.le_of_ble_eq_true rfl) ?_
  try dsimp only [AExit.then, AExit.block]
  refine AWp.block (AWp.loopInv (ι := List Acc × List D × Int × Int)
    (fun I => I.1.map dAcc = I.2.1 ∧ (I.1.length : Int) = n ∧ 0 ≤ I.2.2.1 ∧ I.2.2.1 + I.2.2.2 = m ∧ I.2.2.1 ≤ I.2.2.2 + 1 ∧ ∀ q : Nat, (q : Int) < n → I.1[q]? = if (q : Int) < I.2.2.1 ∨ I.2.2.2 < q then x[x.length - 1 - q]? else x[q]?)
    (fun I => (I.2.2.2 + 1 - I.2.2.1).toNat) [0, 2, 3]
    (fun I => { env := [(0, .mref 0 2 0 n), (2, AI I.2.2.1), (3, AI I.2.2.2)], heap := [.arr 2 I.2.1], n := 28 }) (x, X, 0, m) (by cbv) ⟨hX, hn, by dsimp only; omega, by dsimp only; omega, by dsimp only; omega, fun q hq => ?_⟩ ?_)
  · dsimp only
    rw [if_neg (by omega)]
  · rintro ⟨l, L, i, j⟩ ⟨g1, g2, g3, g4, g5, g6⟩
    dsimp only at *
    by_cases hij : i < j
    · obtain ⟨⟨v, p⟩, hi⟩ : ∃ s, l[i.toNat]? = some s := ⟨_, List.getElem?_eq_getElem (by omega)⟩
      obtain ⟨⟨v', p'⟩, hj⟩ : ∃ s, l[j.toNat]? = some s := ⟨_, List.getElem?_eq_getElem (by omega)⟩
      have hLi : L[i.toNat]? = some (.agg [I v, .bool p]) := by rw [← g1, List.getElem?_map, hi]; rfl
      have hLj : L[j.toNat]? = some (.agg [I v', .bool p']) := by rw [← g1, List.getElem?_map, hj]; rfl
      obtain ⟨L1, hL1⟩ : ∃ L1, L.set i.toNat (.agg [I v', .bool p']) = L1 := ⟨_, rfl⟩
      obtain ⟨L2, hL2⟩ : ∃ L2, L1.set j.toNat (.agg [I v, .bool p]) = L2 := ⟨_, rfl⟩
      have hs1 : ∀ A : Ar, A = Ar.std → A.lset L (A.nat i) (.agg [I v', .bool p']) = L1 := fun A hA => by subst hA; exact hL1
      have hs2 : ∀ A : Ar, A = Ar.std → A.lset L1 (A.nat j) (.agg [I v, .bool p]) = L2 := fun A hA => by subst hA; exact hL2
      have hL1j : L1[j.toNat]? = some (.agg [I v', .bool p']) := by rw [← hL1, List.getElem?_set_ne (by omega)]; exact hLj
      obtain ⟨i1, hi1⟩ : ∃ z1, i + 1 = z1 := ⟨_, rfl⟩
      obtain ⟨j1, hj1⟩ : ∃ z1, j - 1 = z1 := ⟨_, rfl⟩
      repeat refine AWp.seq ?_
      refine AWp.reg1 {} hT (fun A hA => by
          have f0 := ar_lt hA hij
          repeat (cbv; simp only [f0])
          cbv) (Nat.le_of_ble_eq_true rfl) ?_
      try dsimp only [AExit.then, AExit.block]
      repeat refine AWp.seq ?_
      refine AWp.cond (b := true) rfl (AWp.skip ?_)
      try dsimp only [AExit.then, AExit.block]
      repeat refine AWp.seq ?_
      refine AWp.block ?_
      repeat refine AWp.seq ?_
      refine AWp.reg1D {} hT rfl (fun A hA => by
          have f0 := ar_le hA (show (0:Int) ≤ i by omega)
          have f1 := ar_le hA (show (0:Int) ≤ j by omega)
          have f2 := ar_lt hA (show i < n by omega)
          have f3 := ar_lt hA (show j < n by omega)
          have f4 := ar_zadd0 hA i
          have f5 := ar_zadd0 hA j
          have f6 := ar_get hA hLi
          have f7 := ar_get hA hLj
          have f8 := hs1 A hA
          have f9 := ar_get hA hL1j
          have f10 := hs2 A hA
          repeat (cbv; simp only [f0, f1, f2, f3, f4, f5, f6, f7, f8, f9, f10])
          cbv) (by kernel_rfl) (Nat.le_of_ble_eq_true rfl) ?_
      try dsimp only [AExit.then, AExit.block]
      repeat refine AWp.seq ?_
      refine AWp.reg1 {} hT (fun A hA => by
          have f0 := ar_add hA i 1 i1 hi1 (by omega) (by omega)
          have f1 := ar_sub hA j 1 j1 hj1 (by omega) (by omega)
          repeat (cbv; simp only [f0, f1])
          cbv) (Nat.le_of_ble_eq_true rfl) ?_
      try dsimp only [AExit.then, AExit.block]
      refine ⟨((l.set i.toNat (v', p')).set j.toNat (v, p), L2, i1, j1), ⟨?_, by simpa using g2, by dsimp only; omega, by dsimp only; omega, by dsimp only; omega, fun q hq => ?_⟩, by dsimp only; omega, by cbv⟩
      · dsimp only
        rw [← hL2, ← hL1, ← g1, List.map_set, List.map_set]; rfl
      · dsimp only
        have hi' := g6 i.toNat (by omega)
        have hj' := g6 j.toNat (by omega)
        rw [if_neg (by omega)] at hi' hj'
        by_cases c1 : q = j.toNat
        · subst c1
          rw [List.getElem?_set_self (by simp; omega), if_pos (by omega), ← hi, hi']
          congr 1; omega
        · rw [List.getElem?_set_ne (fun e => c1 e.symm)]
          by_cases c2 : q = i.toNat
          · subst c2
            rw [List.getElem?_set_self (by omega), if_pos (by omega), ← hj, hj']
            congr 1; omega
          · rw [List.getElem?_set_ne (fun e => c2 e.symm), g6 q hq]
            by_cases c3 : (q : Int) < i ∨ j < q
            · rw [if_pos c3, if_pos (by omega)]
            · rw [if_neg c3, if_neg (by omega)]
    · repeat refine AWp.seq ?_
      refine AWp.reg1 {} hT (fun A hA => by
          have f0 := ar_nlt hA hij
          repeat (cbv; simp only [f0])
          cbv) (Nat.le_of_ble_eq_true rfl) ?_
      try dsimp only [AExit.then, AExit.block]
      repeat refine AWp.seq ?_
      refine AWp.cond (b := false) rfl (AWp.exit ?_)
      try dsimp only [AExit.then, AExit.block]
      rw [if_pos rfl]
      have : L = Y := by
        rw [← g1, ← hY]
        congr 1
        apply List.ext_getElem?
        intro q
        by_cases hq : (q : Int) < n
        · rw [g6 q hq, List.getElem?_reverse (by omega)]
          by_cases c3 : (q : Int) < i ∨ j < q
          · rw [if_pos c3]
          · rw [if_neg c3]
            congr 1; omega
        · rw [List.getElem?_eq_none (by omega), List.getElem?_eq_none (by simp; omega)]
      rw [this]
      exact ⟨rfl, rfl, rfl, Nat.le_refl _, [], rfl⟩
end Go.Am
