/- Own text: D1T, D1a, D1b, D1c, D1d, D1e. -/
import Derived.Test.YtalfdjihejohoaaAmLoop
import Derived.Test.YtalfdjihejohoaaProg
import Derived.KernelRfl
open Go Go.Am Go.Proofs
set_option maxRecDepth 100000
def tl : List (TypeId × TD) := [
(3, ⟨1, .int .i64, [.d (.int .i64 0)]⟩),
  (4, ⟨1, .bool, [.d (.bool false)]⟩),
  (5, ⟨1, .int .u8, [.d (.int .u8 0)]⟩),
  (22, ⟨1, .slice 25, [.own 1 []]⟩),
  (25, ⟨1, .slice 76, [.own 2 []]⟩),
  (26, ⟨1, .int .i64, [.d (.int .i64 0)]⟩),
  (32, ⟨1, .slice 40, [.own 3 []]⟩),
  (40, ⟨3, .array 3 3, [.d (.int .i64 0), .d (.int .i64 0), .d (.int .i64 0)]⟩),
  (48, ⟨1, .slice 55, [.own 1 []]⟩),
  (49, ⟨1, .slice 118, [.own 2 []]⟩),
  (55, ⟨1, .slice 3, [.own 1 []]⟩),
  (56, ⟨1, .slice 114, [.own 1 []]⟩),
  (76, ⟨2, .struct [(3, 0), (4, 1)], [.d (.int .i64 0), .d (.bool false)]⟩),
  (77, ⟨1, .other, [.nilfunc]⟩),
  (78, ⟨1, .slice 25, [.own 1 []]⟩),
  (79, ⟨1, .slice 82, [.own 2 []]⟩),
  (82, ⟨2, .struct [(3, 0), (3, 1)], [.d (.int .i64 0), .d (.int .i64 0)]⟩),
  (89, ⟨1, .other, [.nilfunc]⟩),
  (90, ⟨1, .other, [.nilfunc]⟩),
  (92, ⟨1, .slice 98, [.own 3 []]⟩),
  (98, ⟨3, .array 3 3, [.d (.int .i64 0), .d (.int .i64 0), .d (.int .i64 0)]⟩),
  (99, ⟨1, .other, [.nilfunc]⟩),
  (100, ⟨1, .slice 32, [.own 1 []]⟩),
  (102, ⟨1, .other, [.nilfunc]⟩),
  (103, ⟨1, .slice 119, [.own 2 []]⟩),
  (114, ⟨1, .slice 116, [.own 3 []]⟩),
  (116, ⟨3, .struct [(3, 0), (3, 1), (3, 2)], [.d (.int .i64 0), .d (.int .i64 0), .d (.int .i64 0)]⟩),
  (118, ⟨2, .array 2 3, [.d (.int .i64 0), .d (.int .i64 0)]⟩),
  (119, ⟨2, .array 2 3, [.d (.int .i64 0), .d (.int .i64 0)]⟩),
  (125, ⟨1, .other, [.nilfunc]⟩),
  (128, ⟨1, .map 119 3, [.nilmap]⟩),
  (130, ⟨1, .other, [.nilfunc]⟩),
  (135, ⟨1, .map 98 4, [.nilmap]⟩),
  (142, ⟨1, .other, [.nilfunc]⟩),
  (153, ⟨1, .other, [.nilfunc]⟩),
  (156, ⟨1, .int .u64, [.d (.int .u64 0)]⟩)
]
def T : Types := tlook tl
theorem hT : TOk Try.prog T := TOk.of_list (by kernel_rfl)

set_option maxRecDepth 100000
set_option linter.unusedVariables false
set_option linter.unusedSimpArgs false
namespace Go.Am
open Go Go.Proofs
noncomputable abbrev P := Try.prog
abbrev I (n : Int) : D := .int .i64 n
abbrev AI (n : Int) : AV := .d (.int .i64 n)
abbrev AB (b : Bool) : AV := .d (.bool b)

theorem wrapI (n : Int) (h0 : -9223372036854775808 ≤ n) (h1 : n < 9223372036854775808) : IntKind.i64.wrap n = n := by
  simp [IntKind.wrap_i64]; omega
theorem ar_len {A : Ar} (hA : A = Ar.std) (l : List D) (n : Int) (h : (l.length : Int) = n) : A.len l = n := by subst hA; exact h
theorem ar_sub {A : Ar} (hA : A = Ar.std) (x y z : Int) (h : x - y = z) (h0 : -9223372036854775808 ≤ z) (h1 : z < 9223372036854775808) : A.wrp .i64 (A.zsub x y) = z := by subst hA; subst h; exact wrapI _ h0 h1
theorem ar_add {A : Ar} (hA : A = Ar.std) (x y z : Int) (h : x + y = z) (h0 : -9223372036854775808 ≤ z) (h1 : z < 9223372036854775808) : A.wrp .i64 (A.zadd x y) = z := by subst hA; subst h; exact wrapI _ h0 h1
theorem ar_le {A : Ar} (hA : A = Ar.std) {x y : Int} (h : x ≤ y) : A.zle x y = true := by subst hA; simpa [Ar.std] using h
theorem ar_nle {A : Ar} (hA : A = Ar.std) {x y : Int} (h : ¬ x ≤ y) : A.zle x y = false := by subst hA; simpa [Ar.std] using h
theorem ar_lt {A : Ar} (hA : A = Ar.std) {x y : Int} (h : x < y) : A.zlt x y = true := by subst hA; simpa [Ar.std] using h
theorem ar_nlt {A : Ar} (hA : A = Ar.std) {x y : Int} (h : ¬ x < y) : A.zlt x y = false := by subst hA; simpa [Ar.std] using h
theorem ar_eq {A : Ar} (hA : A = Ar.std) {x y : Int} (h : x = y) : A.zeq x y = true := by subst hA; simpa [Ar.std] using h
theorem ar_ne {A : Ar} (hA : A = Ar.std) {x y : Int} (h : ¬ x = y) : A.zeq x y = false := by subst hA; simpa [Ar.std] using h
theorem ar_get {A : Ar} (hA : A = Ar.std) {l : List D} {x : Int} {y : D} (h : l[x.toNat]? = some y) : A.lget l (A.nat x) = some y := by subst hA; exact h

abbrev Acc := Int × Bool
def dAcc (a : Acc) : D := .agg [I a.1, .bool a.2]
def dAccs (l : List Acc) : D := .list 2 (l.map dAcc)
def dX (x : List (List Acc)) : D := .list 1 (x.map dAccs)

theorem between_ok (lo x hi : Int) : ACall P 67 [AI lo, AI x, AI hi] [] (AB (decide (lo ≤ x) && decide (x ≤ hi))) [] := by
  refine ACall.enter hT (fn := Try.f67) Try.func67 rfl (by decide) (by simp [Try.f67]) rfl rfl rfl rfl (Nat.le_refl _) ?_
  refine AWp.seq (AWp.region (AOps.done hT (an := {}) (fun A hA => by cbv) (Nat.zero_le _) ?_))
  by_cases h : lo ≤ x
  · refine AWp.seq (AWp.region (AOps.done hT (an := {}) (fun A hA => by
      have h1 : A.zle lo x = true := by subst hA; simpa [Ar.std] using h
      cbv
      simp only [h1]
      cbv
      subst hA; dsimp only [Ar.std]) (Nat.zero_le _) ?_))
    refine AWp.ret ⟨?_, rfl, rfl, Nat.zero_le _, [], rfl⟩
    simp [h]
    rfl
  · refine AWp.seq (AWp.region (AOps.done hT (an := {}) (fun A hA => by
      have h1 : A.zle lo x = false := by subst hA; simpa [Ar.std] using h
      cbv
      simp only [h1]
      cbv) (Nat.zero_le _) ?_))
    refine AWp.ret ⟨?_, rfl, rfl, Nat.zero_le _, [], rfl⟩
    simp [h]
    rfl

theorem at_ok (X L : List D) (t a v : Int) (b : Bool) (h0 : 0 ≤ t) (h1 : X[t.toNat]? = some (.list 2 L)) (h2 : 0 ≤ a) (h3 : L[a.toNat]? = some (.agg [I v, .bool b])) :
    ACall P 113 [.d (.list 1 X), .d (.agg [I t, I a])] [] (.d (.agg [I v, .bool b])) [] := by
  refine ACall.enter hT (fn := Try.f113) Try.func113 rfl (by decide) (by simp [Try.f113]) rfl rfl rfl rfl (Nat.le_refl _) ?_
  refine AWp.reg {} hT (fun A hA => by cbv) (Nat.zero_le _) ?_
  refine AWp.regD {} hT rfl (fun A hA => by
      have e0 : A.zle 0 t = true := by subst hA; simpa [Ar.std] using h0
      have e1 : A.lget X (A.nat t) = some (.list 2 L) := by subst hA; simpa [Ar.std] using h1
      have e2 : A.zle 0 a = true := by subst hA; simpa [Ar.std] using h2
      have e3 : A.lget L (A.nat a) = some (.agg [I v, .bool b]) := by subst hA; simpa [Ar.std] using h3
      repeat (cbv; simp only [e0, e1, e2, e3])
      cbv) (by kernel_rfl) (Nat.zero_le _) ?_
  refine AWp.ret ⟨?_, rfl, rfl, Nat.zero_le _, [], rfl⟩
  rfl
theorem between_ok' (lo x hi : Int) (r : Bool) (h : (decide (lo ≤ x) && decide (x ≤ hi)) = r) : ACall P 67 [AI lo, AI x, AI hi] [] (AB r) [] := h ▸ between_ok lo x hi

theorem in_ok (s0 s1 s2 : Int) : ACall P 112 [.d (.agg [I s0, I s1, I s2])] [] (.d (.agg [I s0, I s1])) [] := by
  refine ACall.enter hT (fn := Try.f112) Try.func112 rfl (by decide) (by simp [Try.f112]) rfl rfl rfl rfl (Nat.le_refl _) ?_
  refine AWp.reg {} hT (fun A hA => by cbv) (Nat.zero_le _) ?_
  refine AWp.reg {} hT (fun A hA => by cbv) (Nat.zero_le _) ?_
  exact AWp.ret ⟨rfl, rfl, rfl, Nat.zero_le _, [], rfl⟩
theorem out_ok (s0 s1 s2 : Int) : ACall P 111 [.d (.agg [I s0, I s1, I s2])] [] (.d (.agg [I s0, I s2])) [] := by
  refine ACall.enter hT (fn := Try.f111) Try.func111 rfl (by decide) (by simp [Try.f111]) rfl rfl rfl rfl (Nat.le_refl _) ?_
  refine AWp.reg {} hT (fun A hA => by cbv) (Nat.zero_le _) ?_
  refine AWp.reg {} hT (fun A hA => by cbv) (Nat.zero_le _) ?_
  exact AWp.ret ⟨rfl, rfl, rfl, Nat.zero_le _, [], rfl⟩

/-- Sizes that are small enough. -/
def Small (x : List (List Acc)) : Prop := x.length ≤ 1000 ∧ ∀ l ∈ x, l.length ≤ 1000
def there (x : List (List Acc)) (t a : Int) : Bool := decide (0 ≤ t) && (match x[t.toNat]? with | some l => decide (0 ≤ a) && decide (a < l.length) | none => false)

theorem there_ok (x : List (List Acc)) (t a : Int) (hx : Small x) : ACall P 64 [.d (dX x), .d (.agg [I t, I a])] [] (AB (there x t a)) [] := by
  obtain ⟨X, hX⟩ : ∃ X, x.map dAccs = X := ⟨_, rfl⟩
  obtain ⟨n, hn⟩ : ∃ n : Int, (X.length : Int) = n := ⟨_, rfl⟩
  obtain ⟨n1, hn1⟩ : ∃ n1 : Int, n - 1 = n1 := ⟨_, rfl⟩
  have hxl : (x.length : Int) = n := by rw [← hn, ← hX]; simp
  have hs := hx.1
  unfold dX
  rw [hX]
  refine ACall.enter hT (fn := Try.f64) Try.func64 rfl (by decide) (by simp [Try.f64]) rfl rfl rfl rfl (Nat.le_refl _) ?_
  refine AWp.reg {} hT (fun A hA => by cbv) (Nat.zero_le _) ?_
  by_cases h : 0 ≤ t ∧ t < n
  · obtain ⟨L, hL⟩ : ∃ L, x[t.toNat]? = some L := ⟨_, List.getElem?_eq_getElem (by omega)⟩
    obtain ⟨L', hL'⟩ : ∃ L', L.map dAcc = L' := ⟨_, rfl⟩
    obtain ⟨k, hk⟩ : ∃ n : Int, (L'.length : Int) = n := ⟨_, rfl⟩
    obtain ⟨k1, hk1⟩ : ∃ n1 : Int, k - 1 = n1 := ⟨_, rfl⟩
    obtain ⟨r, hr⟩ : ∃ r, (decide (0 ≤ a) && decide (a < k)) = r := ⟨_, rfl⟩
    have hkL : (L.length : Int) = k := by rw [← hk, ← hL']; simp
    have hs2 := hx.2 L (List.mem_of_getElem? hL)
    have hXt : X[t.toNat]? = some (.list 2 L') := by rw [← hX, List.getElem?_map, hL, ← hL']; rfl
    refine AWp.seq (AWp.regionDraw rfl (Nat.zero_le _) (DOps.stepCall hT (an := {}) rfl (fun A hA => by
      have e1 := ar_len hA X n hn
      have e2 := ar_sub hA n 1 n1 hn1 (by omega) (by omega)
      repeat (cbv; simp only [e1, e2])
      cbv) rfl rfl (Nat.le_of_ble_eq_true rfl) rfl rfl (between_ok' _ _ _ true (by simp; omega)) ?_))
    refine DOps.stepCall hT (an := {}) rfl (fun A hA => by
      have e1 := ar_len hA L' k hk
      have e2 := ar_sub hA k 1 k1 hk1 (by omega) (by omega)
      have e3 := ar_get hA hXt
      have e4 := ar_le hA h.1
      repeat (cbv; simp only [e1, e2, e3, e4])
      cbv) rfl rfl (Nat.le_of_ble_eq_true rfl) rfl rfl (between_ok' _ _ _ r (by rw [← hr]; congr 1; simp; omega)) ?_
    refine DOps.done hT (an := {}) rfl (fun A hA => by cbv) (by kernel_rfl) ?_
    refine AWp.ret ⟨?_, rfl, rfl, Nat.zero_le _, [], rfl⟩
    simp [there, h.1, hL, hkL, hr]
    rfl
  · refine AWp.seq (AWp.regionDraw rfl (Nat.zero_le _) (DOps.stepCall hT (an := {}) rfl (fun A hA => by
      have e1 := ar_len hA X n hn
      have e2 := ar_sub hA n 1 n1 hn1 (by omega) (by omega)
      repeat (cbv; simp only [e1, e2])
      cbv) rfl rfl (Nat.le_of_ble_eq_true rfl) rfl rfl (between_ok' _ _ _ false (by simp; omega)) ?_))
    refine DOps.done hT (an := {}) rfl (fun A hA => by cbv) (by kernel_rfl) ?_
    refine AWp.ret ⟨?_, rfl, rfl, Nat.zero_le _, [], rfl⟩
    have : there x t a = false := by
      unfold there
      by_cases h0 : 0 ≤ t
      · rw [List.getElem?_eq_none (by omega)]; simp
      · simp [h0]
    rw [this]
    rfl
end Go.Am

set_option maxRecDepth 100000
set_option linter.unusedVariables false
set_option linter.unusedSimpArgs false
namespace Go.Am
open Go Go.Proofs

def acc (x : List (List Acc)) (t a : Int) : Acc := ((x[t.toNat]?).bind (·[a.toNat]?)).getD (0, false)
theorem there_get {x : List (List Acc)} {t a : Int} (h : there x t a = true) : 0 ≤ t ∧ 0 ≤ a ∧ ∃ L, x[t.toNat]? = some L ∧ L[a.toNat]? = some (acc x t a) := by
  unfold there at h
  simp only [Bool.and_eq_true, decide_eq_true_eq] at h
  obtain ⟨h0, h⟩ := h
  split at h
  · rename_i L hL
    simp only [Bool.and_eq_true, decide_eq_true_eq] at h
    refine ⟨h0, h.1, L, hL, ?_⟩
    unfold acc
    rw [hL]
    simp only [Option.bind_some]
    rw [List.getElem?_eq_getElem (by omega)]
    rfl
  · cases h
theorem at_ok' (x : List (List Acc)) (t a : Int) (h : there x t a = true) : ACall P 113 [.d (dX x), .d (.agg [I t, I a])] [] (.d (.agg [I (acc x t a).1, .bool (acc x t a).2])) [] := by
  obtain ⟨h0, h1, L, h2, h3⟩ := there_get h
  exact at_ok _ (L.map dAcc) t a _ _ h0 (by rw [List.getElem?_map, h2]; rfl) h1 (by rw [List.getElem?_map, h3]; rfl)

def conflict (x : List (List Acc)) (t a u b : Int) : Bool := decide (t ≠ u) && decide ((acc x t a).1 = (acc x u b).1) && ((acc x t a).2 || (acc x u b).2)
theorem conflict_ok (x : List (List Acc)) (t a u b : Int) (h : there x t a = true) (h' : there x u b = true) :
    ACall P 63 [.d (dX x), .d (.agg [I t, I a]), .d (.agg [I u, I b])] [] (AB (conflict x t a u b)) [] := by
  have c1 := at_ok' x t a h
  have c2 := at_ok' x u b h'
  unfold conflict
  obtain ⟨X, hX⟩ : ∃ X, dX x = X := ⟨_, rfl⟩
  rw [hX] at c1 c2 ⊢
  obtain ⟨v, hv⟩ : ∃ v, (acc x t a).1 = v := ⟨_, rfl⟩
  obtain ⟨v', hv'⟩ : ∃ v, (acc x u b).1 = v := ⟨_, rfl⟩
  obtain ⟨p, hp⟩ : ∃ v, (acc x t a).2 = v := ⟨_, rfl⟩
  obtain ⟨p', hp'⟩ : ∃ v, (acc x u b).2 = v := ⟨_, rfl⟩
  rw [hv, hp] at c1 ⊢
  rw [hv', hp'] at c2 ⊢
  refine ACall.enter hT (fn := Try.f63) Try.func63 rfl (by decide) (by simp [Try.f63]) rfl rfl rfl rfl (Nat.le_refl _) ?_
  refine AWp.reg {} hT (fun A hA => by cbv) (Nat.zero_le _) ?_
  refine AWp.seq (AWp.regionDraw rfl (Nat.zero_le _) (DOps.stepCall hT (an := {}) rfl (fun A hA => by cbv) rfl rfl (Nat.le_of_ble_eq_true rfl) rfl rfl c1 ?_))
  refine DOps.stepCall hT (an := {}) rfl (fun A hA => by cbv) rfl rfl (Nat.le_of_ble_eq_true rfl) rfl rfl c2 ?_
  refine DOps.done hT (an := {}) rfl (fun A hA => by cbv) (by kernel_rfl) ?_
  by_cases e1 : t = u
  · refine AWp.reg {} hT (fun A hA => by
      have f1 := ar_eq hA e1
      repeat (cbv; simp only [f1])
      cbv) (Nat.zero_le _) ?_
    refine AWp.ret ⟨?_, rfl, rfl, Nat.zero_le _, [], rfl⟩
    simp [e1]
    rfl
  · by_cases e2 : v = v'
    · cases p with
      | true =>
        refine AWp.reg {} hT (fun A hA => by
          have f1 := ar_ne hA e1
          have f2 := ar_eq hA e2
          repeat (cbv; simp only [f1, f2])
          cbv) (Nat.zero_le _) ?_
        refine AWp.ret ⟨?_, rfl, rfl, Nat.zero_le _, [], rfl⟩
        simp [e1, e2]
        rfl
      | false =>
        cases p' <;> (
        refine AWp.reg {} hT (fun A hA => by
          have f1 := ar_ne hA e1
          have f2 := ar_eq hA e2
          repeat (cbv; simp only [f1, f2])
          cbv) (Nat.zero_le _) ?_
        refine AWp.ret ⟨?_, rfl, rfl, Nat.zero_le _, [], rfl⟩
        simp [e1, e2]
        rfl)
    · refine AWp.reg {} hT (fun A hA => by
        have f1 := ar_ne hA e1
        have f2 := ar_ne hA e2
        repeat (cbv; simp only [f1, f2])
        cbv) (Nat.zero_le _) ?_
      refine AWp.ret ⟨?_, rfl, rfl, Nat.zero_le _, [], rfl⟩
      simp [e1, e2]
      rfl

abbrev Sta := Int × Int × Int
def dSta (s : Sta) : D := .agg [I s.1, I s.2.1, I s.2.2]
def isPair (x : List (List Acc)) (s : Sta) : Bool := decide (s.2.1 < s.2.2) && there x s.1 s.2.1 && there x s.1 s.2.2 && decide ((acc x s.1 s.2.1).1 ≠ (acc x s.1 s.2.2).1)
theorem isPair_ok (x : List (List Acc)) (s : Sta) (hx : Small x) : ACall P 84 [.d (dX x), .d (dSta s)] [] (AB (isPair x s)) [] := by
  obtain ⟨t, a, b⟩ := s
  have ci := in_ok t a b
  have co := out_ok t a b
  have t1 := there_ok x t a hx
  have t2 := there_ok x t b hx
  have a1 := at_ok' x t a
  have a2 := at_ok' x t b
  show ACall P 84 [.d (dX x), .d (.agg [I t, I a, I b])] [] _ []
  unfold isPair
  simp only
  obtain ⟨X, hX⟩ : ∃ X, dX x = X := ⟨_, rfl⟩
  rw [hX] at t1 t2 a1 a2 ⊢
  obtain ⟨v, hv⟩ : ∃ v, (acc x t a).1 = v := ⟨_, rfl⟩
  obtain ⟨v', hv'⟩ : ∃ v, (acc x t b).1 = v := ⟨_, rfl⟩
  obtain ⟨p, hp⟩ : ∃ v, (acc x t a).2 = v := ⟨_, rfl⟩
  obtain ⟨p', hp'⟩ : ∃ v, (acc x t b).2 = v := ⟨_, rfl⟩
  rw [hv, hp] at a1
  rw [hv', hp'] at a2
  rw [hv, hv']
  refine ACall.enter hT (fn := Try.f84) Try.func84 rfl (by decide) (by simp [Try.f84]) rfl rfl rfl rfl (Nat.le_refl _) ?_
  refine AWp.reg {} hT (fun A hA => by cbv) (Nat.zero_le _) ?_
  by_cases e1 : a < b
  · refine AWp.seq (AWp.regionDraw rfl (Nat.zero_le _) (DOps.stepCall hT (an := {}) rfl (fun A hA => by
        have f1 := ar_lt hA e1
        repeat (cbv; simp only [f1])
        cbv) rfl rfl (Nat.le_of_ble_eq_true rfl) rfl rfl ci ?_))
    refine DOps.stepCall hT (an := {}) rfl (fun A hA => by cbv) rfl rfl (Nat.le_of_ble_eq_true rfl) rfl rfl t1 ?_
    cases h1 : there x t a with
    | false =>
      refine DOps.done hT (an := {}) rfl (fun A hA => by cbv) (by kernel_rfl) ?_
      refine AWp.ret ⟨?_, rfl, rfl, Nat.zero_le _, [], rfl⟩
      simp; rfl
    | true =>
      refine DOps.stepCall hT (an := {}) rfl (fun A hA => by cbv) rfl rfl (Nat.le_of_ble_eq_true rfl) rfl rfl co ?_
      refine DOps.stepCall hT (an := {}) rfl (fun A hA => by cbv) rfl rfl (Nat.le_of_ble_eq_true rfl) rfl rfl t2 ?_
      cases h2 : there x t b with
      | false =>
        refine DOps.done hT (an := {}) rfl (fun A hA => by cbv) (by kernel_rfl) ?_
        refine AWp.ret ⟨?_, rfl, rfl, Nat.zero_le _, [], rfl⟩
        simp; rfl
      | true =>
        refine DOps.stepCall hT (an := {}) rfl (fun A hA => by cbv) rfl rfl (Nat.le_of_ble_eq_true rfl) rfl rfl ci ?_
        refine DOps.stepCall hT (an := {}) rfl (fun A hA => by cbv) rfl rfl (Nat.le_of_ble_eq_true rfl) rfl rfl (a1 h1) ?_
        refine DOps.stepCall hT (an := {}) rfl (fun A hA => by cbv) rfl rfl (Nat.le_of_ble_eq_true rfl) rfl rfl co ?_
        refine DOps.stepCall hT (an := {}) rfl (fun A hA => by cbv) rfl rfl (Nat.le_of_ble_eq_true rfl) rfl rfl (a2 h2) ?_
        by_cases e2 : v = v'
        · refine DOps.done hT (an := {}) rfl (fun A hA => by
            have f1 := ar_eq hA e2
            repeat (cbv; simp only [f1])
            cbv) (by kernel_rfl) ?_
          refine AWp.ret ⟨?_, rfl, rfl, Nat.zero_le _, [], rfl⟩
          simp [e2]; rfl
        · refine DOps.done hT (an := {}) rfl (fun A hA => by
            have f1 := ar_ne hA e2
            repeat (cbv; simp only [f1])
            cbv) (by kernel_rfl) ?_
          refine AWp.ret ⟨?_, rfl, rfl, Nat.zero_le _, [], rfl⟩
          simp [e1, e2]; rfl
  · refine AWp.seq (AWp.regionDraw rfl (Nat.zero_le _) (DOps.done hT (an := {}) rfl (fun A hA => by
        have f1 := ar_nlt hA e1
        repeat (cbv; simp only [f1])
        cbv) (by kernel_rfl) ?_))
    refine AWp.ret ⟨?_, rfl, rfl, Nat.zero_le _, [], rfl⟩
    simp [e1]; rfl
end Go.Am

set_option maxRecDepth 100000
set_option linter.unusedVariables false
set_option linter.unusedSimpArgs false
namespace Go.Am
open Go Go.Proofs
theorem foldl_range_succ {α : Type} (f : α → Nat → α) (a : α) (n : Nat) : (List.range (n + 1)).foldl f a = f ((List.range n).foldl f a) n := by
  rw [List.range_succ, List.foldl_append]; rfl
theorem ar_fits {A : Ar} (hA : A = Ar.std) (l m : List D) (h : l.length + m.length < 4294967296) : A.fits (A.zadd (A.len l) (A.len m)) = true := by
  subst hA; simp only [Ar.std]; simp; omega
theorem ar_app {A : Ar} (hA : A = Ar.std) (l m r : List D) (h : l ++ m = r) : A.app l m = r := by subst hA; exact h

/-- All accesses. -/
def spots (x : List (List Acc)) : List (Int × Int) := (List.range x.length).foldl (fun acc (t : Nat) => (List.range (x.getD t []).length).foldl (fun acc (a : Nat) => acc ++ [((t : Int), (a : Int))]) acc) []
def dSpot (s : Int × Int) : D := .agg [I s.1, I s.2]
def dSpots (l : List (Int × Int)) : D := .list 2 (l.map dSpot)

theorem spots_ok (x : List (List Acc)) (hx : Small x) : ACall P 62 [.d (dX x)] [] (.d (dSpots (spots x))) [] := by
  obtain ⟨X, hX⟩ : ∃ X, x.map dAccs = X := ⟨_, rfl⟩
  obtain ⟨n, hn⟩ : ∃ n : Int, (X.length : Int) = n := ⟨_, rfl⟩
  have hxl : (x.length : Int) = n := by rw [← hn, ← hX]; simp
  have hs := hx.1
  unfold dX
  rw [hX]
  refine ACall.enter hT (fn := Try.f62) Try.func62 rfl (by decide) (by simp [Try.f62]) rfl rfl rfl rfl (Nat.le_refl _) ?_
  repeat refine AWp.seq ?_
  refine AWp.reg1 {tk := [3]} hT (fun A hA => by cbv) (Nat.zero_le _) ?_
  try dsimp only [AExit.then, AExit.block]
  repeat refine AWp.seq ?_
  refine AWp.reg1 {tk := [3]} hT (fun A hA => by cbv) (Nat.zero_le _) ?_
  try dsimp only [AExit.then, AExit.block]
  repeat refine AWp.seq ?_
  refine AWp.reg1 {} hT (fun A hA => by
      have f0 := ar_len hA X n hn
      repeat (cbv; simp only [f0])
      cbv) (Nat.zero_le _) ?_
  try dsimp only [AExit.then, AExit.block]
  let F : Nat → List (Int × Int) := fun i => (List.range i).foldl (fun acc (t : Nat) => (List.range (x.getD t []).length).foldl (fun acc (a : Nat) => acc ++ [((t : Int), (a : Int))]) acc) []
  have hF : ∀ i, F (i + 1) = (List.range (x.getD i []).length).foldl (fun acc (a : Nat) => acc ++ [((i : Int), (a : Int))]) (F i) := fun i => foldl_range_succ _ _ _
  refine AWp.block (AWp.loopInv (ι := Int × List D) (fun p => 0 ≤ p.1 ∧ p.1 ≤ n ∧ p.2 = (F p.1.toNat).map dSpot ∧ p.2.length ≤ p.1 * 1000) (fun p => (n - p.1).toNat) [0, 3, 7, 8, 9]
    (fun p => { env := [(0, .d (.list 1 X)), (3, .own 2 p.2), (7, .d (.list 1 X)), (8, AI n), (9, AI p.1)], heap := [], n := 28 }) (0, []) (by cbv) ⟨Int.le_refl _, by omega, rfl, by simp⟩ ?_)
  rintro ⟨z, l⟩ ⟨h0, h1, hl, hlen⟩
  dsimp only at *
  by_cases hz : z < n
  · obtain ⟨L, hL⟩ : ∃ L, x[z.toNat]? = some L := ⟨_, List.getElem?_eq_getElem (by omega)⟩
    obtain ⟨L', hL'⟩ : ∃ L', L.map dAcc = L' := ⟨_, rfl⟩
    obtain ⟨k, hk⟩ : ∃ n : Int, (L'.length : Int) = n := ⟨_, rfl⟩
    have hkL : (L.length : Int) = k := by rw [← hk, ← hL']; simp
    have hs2 := hx.2 L (List.mem_of_getElem? hL)
    have hXt : X[z.toNat]? = some (.list 2 L') := by rw [← hX, List.getElem?_map, hL, ← hL']; rfl
    obtain ⟨z1, hz1⟩ : ∃ z1, z + 1 = z1 := ⟨_, rfl⟩
    repeat refine AWp.seq ?_
    refine AWp.reg1 {} hT (fun A hA => by
        have f0 := ar_lt hA hz
        repeat (cbv; simp only [f0])
        cbv) (Nat.zero_le _) ?_
    try dsimp only [AExit.then, AExit.block]
    repeat refine AWp.seq ?_
    refine AWp.cond (b := true) rfl (AWp.skip ?_)
    try dsimp only [AExit.then, AExit.block]
    repeat refine AWp.seq ?_
    refine AWp.block ?_
    repeat refine AWp.seq ?_
    refine AWp.reg1 {} hT (fun A hA => by
        have f0 := ar_get hA hXt
        have f1 := ar_le hA h0
        repeat (cbv; simp only [f0, f1])
        cbv) (Nat.zero_le _) ?_
    try dsimp only [AExit.then, AExit.block]
    repeat refine AWp.seq ?_
    refine AWp.reg1 {} hT (fun A hA => by
        have f0 := ar_len hA L' k hk
        repeat (cbv; simp only [f0])
        cbv) (Nat.zero_le _) ?_
    try dsimp only [AExit.then, AExit.block]
    let F' : Nat → List (Int × Int) := fun i => (List.range i).foldl (fun acc (a : Nat) => acc ++ [((z.toNat : Int), (a : Int))]) (F z.toNat)
    have hF' : ∀ i, F' (i + 1) = F' i ++ [((z.toNat : Int), (i : Int))] := fun i => foldl_range_succ _ _ _
    refine AWp.block (AWp.loopInv (ι := Int × List D) (fun p => 0 ≤ p.1 ∧ p.1 ≤ k ∧ p.2 = (F' p.1.toNat).map dSpot ∧ p.2.length ≤ z * 1000 + p.1) (fun p => (k - p.1).toNat) [0, 3, 4, 7, 8, 9, 15, 16]
      (fun p => { env := [(0, .d (.list 1 X)), (3, .own 2 p.2), (4, AI z), (7, .d (.list 1 X)), (8, AI n), (9, AI z), (15, AI k), (16, AI p.1)], heap := [], n := 28 }) (0, l) (by cbv) ⟨Int.le_refl _, by omega, hl, by simpa using hlen⟩ ?_)
    rintro ⟨y, l1⟩ ⟨g0, g1, gl, glen⟩
    dsimp only at *
    by_cases hy : y < k
    · repeat refine AWp.seq ?_
      refine AWp.reg1 {} hT (fun A hA => by
          have f0 := ar_lt hA hy
          repeat (cbv; simp only [f0])
          cbv) (Nat.zero_le _) ?_
      try dsimp only [AExit.then, AExit.block]
      repeat refine AWp.seq ?_
      refine AWp.cond (b := true) rfl (AWp.skip ?_)
      try dsimp only [AExit.then, AExit.block]
      repeat refine AWp.seq ?_
      refine AWp.block ?_
      repeat refine AWp.seq ?_
      refine AWp.reg1 {} hT (fun A hA => by cbv) (Nat.zero_le _) ?_
      try dsimp only [AExit.then, AExit.block]
      obtain ⟨l2, hl2⟩ : ∃ l2, l1 ++ [.agg [I z, I y]] = l2 := ⟨_, rfl⟩
      obtain ⟨y1, hy1⟩ : ∃ z1, y + 1 = z1 := ⟨_, rfl⟩
      repeat refine AWp.seq ?_
      refine AWp.reg1 {tk := [3, 19, 24]} hT (fun A hA => by
          have f0 := ar_app hA _ _ _ hl2
          have f1 := ar_fits hA l1 [.agg [I z, I y]] (by simp; omega)
          repeat (cbv; simp only [f0, f1])
          cbv) (Nat.zero_le _) ?_
      try dsimp only [AExit.then, AExit.block]
      repeat refine AWp.seq ?_
      refine AWp.reg1 {} hT (fun A hA => by
          have f0 := ar_add hA y 1 y1 hy1 (by omega) (by omega)
          repeat (cbv; simp only [f0])
          cbv) (Nat.zero_le _) ?_
      try dsimp only [AExit.then, AExit.block]
      refine ⟨(y1, l2), ⟨by omega, by omega, ?_, ?_⟩, by dsimp only; omega, by cbv⟩
      · dsimp only
        rw [← hl2, gl, show y1.toNat = y.toNat + 1 by omega, hF', List.map_append, show (y.toNat : Int) = y by omega, show (z.toNat : Int) = z by omega]; rfl
      · rw [← hl2]; simp; omega
    · repeat refine AWp.seq ?_
      refine AWp.reg1 {} hT (fun A hA => by
          have f0 := ar_nlt hA hy
          repeat (cbv; simp only [f0])
          cbv) (Nat.zero_le _) ?_
      try dsimp only [AExit.then, AExit.block]
      repeat refine AWp.seq ?_
      refine AWp.cond (b := false) rfl (AWp.exit ?_)
      try dsimp only [AExit.then, AExit.block]
      rw [if_pos rfl]
      repeat refine AWp.seq ?_
      refine AWp.reg1 {} hT (fun A hA => by
          have f0 := ar_add hA z 1 z1 hz1 (by omega) (by omega)
          repeat (cbv; simp only [f0])
          cbv) (Nat.zero_le _) ?_
      try dsimp only [AExit.then, AExit.block]
      refine ⟨(z1, l1), ⟨by omega, by omega, ?_, ?_⟩, by dsimp only; omega, by cbv⟩
      · dsimp only
        rw [gl, show z1.toNat = z.toNat + 1 by omega, hF, show y.toNat = L.length by omega, List.getD_eq_getElem?_getD, hL]; rfl
      · dsimp only; omega
  · repeat refine AWp.seq ?_
    refine AWp.reg1 {} hT (fun A hA => by
        have f0 := ar_nlt hA hz
        repeat (cbv; simp only [f0])
        cbv) (Nat.zero_le _) ?_
    try dsimp only [AExit.then, AExit.block]
    repeat refine AWp.seq ?_
    refine AWp.cond (b := false) rfl (AWp.exit ?_)
    try dsimp only [AExit.then, AExit.block]
    rw [if_pos rfl]
    repeat refine AWp.seq ?_
    refine AWp.reg1 {} hT (fun A hA => by cbv) (Nat.zero_le _) ?_
    try dsimp only [AExit.then, AExit.block]
    repeat refine AWp.seq ?_
    refine AWp.ret ⟨?_, rfl, rfl, Nat.zero_le _, _, rfl⟩
    have : spots x = F z.toNat := by rw [show z.toNat = x.length by omega]; rfl
    rw [dSpots, this, ← hl]; rfl
end Go.Am

set_option maxRecDepth 100000
set_option linter.unusedVariables false
set_option linter.unusedSimpArgs false
namespace Go.Am
open Go Go.Proofs

theorem index22 (x : List (List Acc)) (hx : x.length ≤ 9223372036854775807) (f : FuncId) (bs : List AV) (H : List Obj) (p : List Acc → Bool) (hin : objsInb H.length H = true) (hbs : inbL H.length bs = true) (hbf : bs.all AV.free = true)
    (hp : ∀ l ∈ x, ACall P f (.d (dAccs l) :: bs) H (AB (p l)) H) : ∃ r : Int, (decide (0 ≤ r) = x.any p) ∧ ACall P 114 [.d (.list 1 (x.map dAccs)), .func f [] bs] H (AI r) H := by
  refine ⟨match x.findIdx? p with | some i => (i : Int) | none => -1, ?_, ?_⟩
  · cases h : x.findIdx? p with
    | none =>
      rw [List.findIdx?_eq_none_iff] at h
      have : x.any p = false := List.any_eq_false.2 (fun y hy => by rw [h y hy]; exact Bool.false_ne_true)
      rw [this]; rfl
    | some i =>
      obtain ⟨h1, h2, _⟩ := List.findIdx?_eq_some_iff_getElem.1 h
      have : x.any p = true := List.any_eq_true.2 ⟨_, List.getElem_mem h1, h2⟩
      rw [this]; simp
  obtain ⟨X, hX⟩ : ∃ X, x.map dAccs = X := ⟨_, rfl⟩
  obtain ⟨n, hn⟩ : ∃ n : Int, (X.length : Int) = n := ⟨_, rfl⟩
  have hxl : (x.length : Int) = n := by rw [← hn, ← hX]; simp
  rw [hX]
  refine ACall.enter hT (fn := Try.f114) Try.func114 rfl (by decide) (by simp [Try.f114]) rfl rfl rfl hin (Nat.le_refl _) ?_
  repeat refine AWp.seq ?_
  refine AWp.reg1 {} hT (fun A hA => by cbv) (Nat.le_refl _) ?_
  try dsimp only [AExit.then, AExit.block]
  repeat refine AWp.seq ?_
  refine AWp.reg1 {} hT (fun A hA => by
      have f0 := ar_len hA X n hn
      repeat (cbv; simp only [f0])
      cbv) (Nat.le_refl _) ?_
  try dsimp only [AExit.then, AExit.block]
  refine AWp.block (AWp.loopInv (ι := Int) (fun z => 0 ≤ z ∧ z ≤ n ∧ ∀ l ∈ x.take z.toNat, p l = false) (fun z => (n - z).toNat) [0, 1, 6, 7, 8]
    (fun z => { env := [(0, .d (.list 1 X)), (1, .func f [] bs), (6, .d (.list 1 X)), (7, AI n), (8, AI z)], heap := H, n := 19 }) 0 (by cbv) ⟨Int.le_refl _, by omega, by simp⟩ ?_)
  rintro z ⟨h0, h1, h2⟩
  by_cases hz : z < n
  · obtain ⟨L, hL⟩ : ∃ L, x[z.toNat]? = some L := ⟨_, List.getElem?_eq_getElem (by omega)⟩
    have hLm := hp L (List.mem_of_getElem? hL)
    have hXt : X[z.toNat]? = some (dAccs L) := by rw [← hX, List.getElem?_map, hL]; rfl
    obtain ⟨b, hb⟩ : ∃ b, p L = b := ⟨_, rfl⟩
    rw [hb] at hLm
    
    obtain ⟨L1, hL1⟩ : ∃ L1, L.map dAcc = L1 := ⟨_, rfl⟩
    unfold dAccs at hXt hLm
    rw [hL1] at hXt hLm
    obtain ⟨z1, hz1⟩ : ∃ z1, z + 1 = z1 := ⟨_, rfl⟩
    repeat refine AWp.seq ?_
    refine AWp.reg1 {} hT (fun A hA => by
        have f0 := ar_lt hA hz
        repeat (cbv; simp only [f0])
        cbv) (Nat.le_refl _) ?_
    try dsimp only [AExit.then, AExit.block]
    repeat refine AWp.seq ?_
    refine AWp.cond (b := true) rfl (AWp.skip ?_)
    try dsimp only [AExit.then, AExit.block]
    repeat refine AWp.seq ?_
    refine AWp.block ?_
    repeat refine AWp.seq ?_
    refine AWp.reg1 {} hT (fun A hA => by cbv) (Nat.le_refl _) ?_
    try dsimp only [AExit.then, AExit.block]
    repeat refine AWp.seq ?_
    refine AWp.region ?_
    refine AOps.stepCallW hT (an := {}) (fun A hA => by
        have f0 := ar_get hA hXt
        have f1 := ar_le hA h0
        repeat (cbv; simp only [f0, f1])
        cbv) (Nat.le_refl _) (by first | rfl | exact hin) (by first | rfl | simp [inbL, AV.inb, hbs]) rfl (Nat.le_of_ble_eq_true rfl) rfl (by first | rfl | simp [AV.free, hbf]) (hLm) ?_
    refine AOps.done hT (an := {}) (fun A hA => by cbv) (Nat.le_refl _) ?_
    try dsimp only [AExit.then, AExit.block]
    cases b with
    | true =>
      repeat refine AWp.seq ?_
      refine AWp.cond (b := true) rfl ?_
      rw [if_pos rfl]
      repeat refine AWp.seq ?_
      refine AWp.reg1 {} hT (fun A hA => by cbv) (Nat.le_refl _) ?_
      try dsimp only [AExit.then, AExit.block]
      refine AWp.ret ⟨?_, rfl, hin, Nat.le_refl _, [], by simp⟩
      have : x.findIdx? p = some z.toNat := by
        rw [List.findIdx?_eq_some_iff_getElem]
        refine ⟨by omega, ?_, fun j hj => ?_⟩
        · rw [List.getElem?_eq_getElem (by omega)] at hL; injection hL with hL; rw [hL]; exact hb
        · have := h2 x[j] (by rw [List.mem_take_iff_getElem]; exact ⟨j, by omega, rfl⟩)
          simp [this]
      rw [this]
      show _ = some (AI (z.toNat : Int))
      rw [show (z.toNat : Int) = z by omega]
      rfl
    | false =>
      repeat refine AWp.seq ?_
      refine AWp.cond (b := false) rfl (AWp.skip ?_)
      try dsimp only [AExit.then, AExit.block]
      repeat refine AWp.seq ?_
      refine AWp.reg1 {} hT (fun A hA => by
          have f0 := ar_add hA z 1 z1 hz1 (by omega) (by omega)
          repeat (cbv; simp only [f0])
          cbv) (Nat.le_refl _) ?_
      try dsimp only [AExit.then, AExit.block]
      refine ⟨z1, ⟨by omega, by omega, ?_⟩, by omega, by cbv⟩
      intro l hl
      rw [show z1.toNat = z.toNat + 1 by omega, List.take_add_one, hL] at hl
      simp at hl
      rcases hl with hl | rfl
      · exact h2 l hl
      · exact hb
  · repeat refine AWp.seq ?_
    refine AWp.reg1 {} hT (fun A hA => by
        have f0 := ar_nlt hA hz
        repeat (cbv; simp only [f0])
        cbv) (Nat.le_refl _) ?_
    try dsimp only [AExit.then, AExit.block]
    repeat refine AWp.seq ?_
    refine AWp.cond (b := false) rfl (AWp.exit ?_)
    try dsimp only [AExit.then, AExit.block]
    rw [if_pos rfl]
    repeat refine AWp.seq ?_
    refine AWp.reg1 {} hT (fun A hA => by cbv) (Nat.le_refl _) ?_
    try dsimp only [AExit.then, AExit.block]
    refine AWp.ret ⟨?_, rfl, hin, Nat.le_refl _, [], by simp⟩
    have : x.findIdx? p = none := by
      rw [List.findIdx?_eq_none_iff]
      intro y hy
      exact h2 y (by rw [List.take_of_length_le (by omega)]; exact hy)
    rw [this]
    rfl

theorem contains22 (x : List (List Acc)) (hx : x.length ≤ 9223372036854775807) (f : FuncId) (bs : List AV) (H : List Obj) (p : List Acc → Bool) (hin : objsInb H.length H = true) (hbs : inbL H.length bs = true) (hbf : bs.all AV.free = true)
    (hp : ∀ l ∈ x, ACall P f (.d (dAccs l) :: bs) H (AB (p l)) H) : ACall P 68 [.d (.list 1 (x.map dAccs)), .func f [] bs] H (AB (x.any p)) H := by
  obtain ⟨r, hr, hc⟩ := index22 x hx f bs H p hin hbs hbf hp
  obtain ⟨b, hb⟩ : ∃ b, x.any p = b := ⟨_, rfl⟩
  rw [hb] at hr ⊢
  obtain ⟨X, hX⟩ : ∃ X, x.map dAccs = X := ⟨_, rfl⟩
  rw [hX] at hc ⊢
  refine ACall.enter hT (fn := Try.f68) Try.func68 rfl (by decide) (by simp [Try.f68]) rfl rfl rfl hin (Nat.le_refl _) ?_
  repeat refine AWp.seq ?_
  refine AWp.reg1 {} hT (fun A hA => by cbv) (Nat.le_refl _) ?_
  try dsimp only [AExit.then, AExit.block]
  repeat refine AWp.seq ?_
  refine AWp.region ?_
  refine AOps.stepCallW hT (an := {}) (fun A hA => by cbv) (Nat.le_refl _) (by first | rfl | exact hin) (by first | rfl | simp [inbL, AV.inb, hbs]) rfl (Nat.le_of_ble_eq_true rfl) rfl (by first | rfl | simp [AV.free, hbf]) (hc) ?_
  have hrb : ∀ A : Ar, A = Ar.std → A.zle 0 r = b := fun A hA => by subst hA; exact hr
  refine AOps.done hT (an := {}) (fun A hA => by
      have f0 := hrb A hA
      repeat (cbv; simp only [f0])
      cbv) (Nat.le_refl _) ?_
  try dsimp only [AExit.then, AExit.block]
  refine AWp.ret ⟨rfl, rfl, hin, Nat.le_refl _, [], by simp⟩

theorem index25 (x : List (Acc)) (hx : x.length ≤ 9223372036854775807) (f : FuncId) (bs : List AV) (H : List Obj) (p : Acc → Bool) (hin : objsInb H.length H = true) (hbs : inbL H.length bs = true) (hbf : bs.all AV.free = true)
    (hp : ∀ l ∈ x, ACall P f (.d (dAcc l) :: bs) H (AB (p l)) H) : ∃ r : Int, (decide (0 ≤ r) = x.any p) ∧ ACall P 115 [.d (.list 2 (x.map dAcc)), .func f [] bs] H (AI r) H := by
  refine ⟨match x.findIdx? p with | some i => (i : Int) | none => -1, ?_, ?_⟩
  · cases h : x.findIdx? p with
    | none =>
      rw [List.findIdx?_eq_none_iff] at h
      have : x.any p = false := List.any_eq_false.2 (fun y hy => by rw [h y hy]; exact Bool.false_ne_true)
      rw [this]; rfl
    | some i =>
      obtain ⟨h1, h2, _⟩ := List.findIdx?_eq_some_iff_getElem.1 h
      have : x.any p = true := List.any_eq_true.2 ⟨_, List.getElem_mem h1, h2⟩
      rw [this]; simp
  obtain ⟨X, hX⟩ : ∃ X, x.map dAcc = X := ⟨_, rfl⟩
  obtain ⟨n, hn⟩ : ∃ n : Int, (X.length : Int) = n := ⟨_, rfl⟩
  have hxl : (x.length : Int) = n := by rw [← hn, ← hX]; simp
  rw [hX]
  refine ACall.enter hT (fn := Try.f115) Try.func115 rfl (by decide) (by simp [Try.f115]) rfl rfl rfl hin (Nat.le_refl _) ?_
  repeat refine AWp.seq ?_
  refine AWp.reg1 {} hT (fun A hA => by cbv) (Nat.le_refl _) ?_
  try dsimp only [AExit.then, AExit.block]
  repeat refine AWp.seq ?_
  refine AWp.reg1 {} hT (fun A hA => by
      have f0 := ar_len hA X n hn
      repeat (cbv; simp only [f0])
      cbv) (Nat.le_refl _) ?_
  try dsimp only [AExit.then, AExit.block]
  refine AWp.block (AWp.loopInv (ι := Int) (fun z => 0 ≤ z ∧ z ≤ n ∧ ∀ l ∈ x.take z.toNat, p l = false) (fun z => (n - z).toNat) [0, 1, 6, 7, 8]
    (fun z => { env := [(0, .d (.list 2 X)), (1, .func f [] bs), (6, .d (.list 2 X)), (7, AI n), (8, AI z)], heap := H, n := 19 }) 0 (by cbv) ⟨Int.le_refl _, by omega, by simp⟩ ?_)
  rintro z ⟨h0, h1, h2⟩
  by_cases hz : z < n
  · obtain ⟨L, hL⟩ : ∃ L, x[z.toNat]? = some L := ⟨_, List.getElem?_eq_getElem (by omega)⟩
    have hLm := hp L (List.mem_of_getElem? hL)
    have hXt : X[z.toNat]? = some (dAcc L) := by rw [← hX, List.getElem?_map, hL]; rfl
    obtain ⟨b, hb⟩ : ∃ b, p L = b := ⟨_, rfl⟩
    rw [hb] at hLm
    
    obtain ⟨v, w⟩ := L
    unfold dAcc at hXt hLm
    dsimp only at hXt hLm
    obtain ⟨z1, hz1⟩ : ∃ z1, z + 1 = z1 := ⟨_, rfl⟩
    repeat refine AWp.seq ?_
    refine AWp.reg1 {} hT (fun A hA => by
        have f0 := ar_lt hA hz
        repeat (cbv; simp only [f0])
        cbv) (Nat.le_refl _) ?_
    try dsimp only [AExit.then, AExit.block]
    repeat refine AWp.seq ?_
    refine AWp.cond (b := true) rfl (AWp.skip ?_)
    try dsimp only [AExit.then, AExit.block]
    repeat refine AWp.seq ?_
    refine AWp.block ?_
    repeat refine AWp.seq ?_
    refine AWp.reg1 {} hT (fun A hA => by cbv) (Nat.le_refl _) ?_
    try dsimp only [AExit.then, AExit.block]
    repeat refine AWp.seq ?_
    refine AWp.region ?_
    refine AOps.stepCallW hT (an := {}) (fun A hA => by
        have f0 := ar_get hA hXt
        have f1 := ar_le hA h0
        repeat (cbv; simp only [f0, f1])
        cbv) (Nat.le_refl _) (by first | rfl | exact hin) (by first | rfl | simp [inbL, AV.inb, hbs]) rfl (Nat.le_of_ble_eq_true rfl) rfl (by first | rfl | simp [AV.free, hbf]) (hLm) ?_
    refine AOps.done hT (an := {}) (fun A hA => by cbv) (Nat.le_refl _) ?_
    try dsimp only [AExit.then, AExit.block]
    cases b with
    | true =>
      repeat refine AWp.seq ?_
      refine AWp.cond (b := true) rfl ?_
      rw [if_pos rfl]
      repeat refine AWp.seq ?_
      refine AWp.reg1 {} hT (fun A hA => by cbv) (Nat.le_refl _) ?_
      try dsimp only [AExit.then, AExit.block]
      refine AWp.ret ⟨?_, rfl, hin, Nat.le_refl _, [], by simp⟩
      have : x.findIdx? p = some z.toNat := by
        rw [List.findIdx?_eq_some_iff_getElem]
        refine ⟨by omega, ?_, fun j hj => ?_⟩
        · rw [List.getElem?_eq_getElem (by omega)] at hL; injection hL with hL; rw [hL]; exact hb
        · have := h2 x[j] (by rw [List.mem_take_iff_getElem]; exact ⟨j, by omega, rfl⟩)
          simp [this]
      rw [this]
      show _ = some (AI (z.toNat : Int))
      rw [show (z.toNat : Int) = z by omega]
      rfl
    | false =>
      repeat refine AWp.seq ?_
      refine AWp.cond (b := false) rfl (AWp.skip ?_)
      try dsimp only [AExit.then, AExit.block]
      repeat refine AWp.seq ?_
      refine AWp.reg1 {} hT (fun A hA => by
          have f0 := ar_add hA z 1 z1 hz1 (by omega) (by omega)
          repeat (cbv; simp only [f0])
          cbv) (Nat.le_refl _) ?_
      try dsimp only [AExit.then, AExit.block]
      refine ⟨z1, ⟨by omega, by omega, ?_⟩, by omega, by cbv⟩
      intro l hl
      rw [show z1.toNat = z.toNat + 1 by omega, List.take_add_one, hL] at hl
      simp at hl
      rcases hl with hl | rfl
      · exact h2 l hl
      · exact hb
  · repeat refine AWp.seq ?_
    refine AWp.reg1 {} hT (fun A hA => by
        have f0 := ar_nlt hA hz
        repeat (cbv; simp only [f0])
        cbv) (Nat.le_refl _) ?_
    try dsimp only [AExit.then, AExit.block]
    repeat refine AWp.seq ?_
    refine AWp.cond (b := false) rfl (AWp.exit ?_)
    try dsimp only [AExit.then, AExit.block]
    rw [if_pos rfl]
    repeat refine AWp.seq ?_
    refine AWp.reg1 {} hT (fun A hA => by cbv) (Nat.le_refl _) ?_
    try dsimp only [AExit.then, AExit.block]
    refine AWp.ret ⟨?_, rfl, hin, Nat.le_refl _, [], by simp⟩
    have : x.findIdx? p = none := by
      rw [List.findIdx?_eq_none_iff]
      intro y hy
      exact h2 y (by rw [List.take_of_length_le (by omega)]; exact hy)
    rw [this]
    rfl

theorem contains25 (x : List (Acc)) (hx : x.length ≤ 9223372036854775807) (f : FuncId) (bs : List AV) (H : List Obj) (p : Acc → Bool) (hin : objsInb H.length H = true) (hbs : inbL H.length bs = true) (hbf : bs.all AV.free = true)
    (hp : ∀ l ∈ x, ACall P f (.d (dAcc l) :: bs) H (AB (p l)) H) : ACall P 70 [.d (.list 2 (x.map dAcc)), .func f [] bs] H (AB (x.any p)) H := by
  obtain ⟨r, hr, hc⟩ := index25 x hx f bs H p hin hbs hbf hp
  obtain ⟨b, hb⟩ : ∃ b, x.any p = b := ⟨_, rfl⟩
  rw [hb] at hr ⊢
  obtain ⟨X, hX⟩ : ∃ X, x.map dAcc = X := ⟨_, rfl⟩
  rw [hX] at hc ⊢
  refine ACall.enter hT (fn := Try.f70) Try.func70 rfl (by decide) (by simp [Try.f70]) rfl rfl rfl hin (Nat.le_refl _) ?_
  repeat refine AWp.seq ?_
  refine AWp.reg1 {} hT (fun A hA => by cbv) (Nat.le_refl _) ?_
  try dsimp only [AExit.then, AExit.block]
  repeat refine AWp.seq ?_
  refine AWp.region ?_
  refine AOps.stepCallW hT (an := {}) (fun A hA => by cbv) (Nat.le_refl _) (by first | rfl | exact hin) (by first | rfl | simp [inbL, AV.inb, hbs]) rfl (Nat.le_of_ble_eq_true rfl) rfl (by first | rfl | simp [AV.free, hbf]) (hc) ?_
  have hrb : ∀ A : Ar, A = Ar.std → A.zle 0 r = b := fun A hA => by subst hA; exact hr
  refine AOps.done hT (an := {}) (fun A hA => by
      have f0 := hrb A hA
      repeat (cbv; simp only [f0])
      cbv) (Nat.le_refl _) ?_
  try dsimp only [AExit.then, AExit.block]
  refine AWp.ret ⟨rfl, rfl, hin, Nat.le_refl _, [], by simp⟩

theorem index98 (x : List (Sta)) (hx : x.length ≤ 9223372036854775807) (f : FuncId) (bs : List AV) (H : List Obj) (p : Sta → Bool) (hin : objsInb H.length H = true) (hbs : inbL H.length bs = true) (hbf : bs.all AV.free = true)
    (hp : ∀ l ∈ x, ACall P f (.d (dSta l) :: bs) H (AB (p l)) H) : ∃ r : Int, (decide (0 ≤ r) = x.any p) ∧ ACall P 122 [.d (.list 3 (x.map dSta)), .func f [] bs] H (AI r) H := by
  refine ⟨match x.findIdx? p with | some i => (i : Int) | none => -1, ?_, ?_⟩
  · cases h : x.findIdx? p with
    | none =>
      rw [List.findIdx?_eq_none_iff] at h
      have : x.any p = false := List.any_eq_false.2 (fun y hy => by rw [h y hy]; exact Bool.false_ne_true)
      rw [this]; rfl
    | some i =>
      obtain ⟨h1, h2, _⟩ := List.findIdx?_eq_some_iff_getElem.1 h
      have : x.any p = true := List.any_eq_true.2 ⟨_, List.getElem_mem h1, h2⟩
      rw [this]; simp
  obtain ⟨X, hX⟩ : ∃ X, x.map dSta = X := ⟨_, rfl⟩
  obtain ⟨n, hn⟩ : ∃ n : Int, (X.length : Int) = n := ⟨_, rfl⟩
  have hxl : (x.length : Int) = n := by rw [← hn, ← hX]; simp
  rw [hX]
  refine ACall.enter hT (fn := Try.f122) Try.func122 rfl (by decide) (by simp [Try.f122]) rfl rfl rfl hin (Nat.le_refl _) ?_
  repeat refine AWp.seq ?_
  refine AWp.reg1 {} hT (fun A hA => by cbv) (Nat.le_refl _) ?_
  try dsimp only [AExit.then, AExit.block]
  repeat refine AWp.seq ?_
  refine AWp.reg1 {} hT (fun A hA => by
      have f0 := ar_len hA X n hn
      repeat (cbv; simp only [f0])
      cbv) (Nat.le_refl _) ?_
  try dsimp only [AExit.then, AExit.block]
  refine AWp.block (AWp.loopInv (ι := Int) (fun z => 0 ≤ z ∧ z ≤ n ∧ ∀ l ∈ x.take z.toNat, p l = false) (fun z => (n - z).toNat) [0, 1, 6, 7, 8]
    (fun z => { env := [(0, .d (.list 3 X)), (1, .func f [] bs), (6, .d (.list 3 X)), (7, AI n), (8, AI z)], heap := H, n := 19 }) 0 (by cbv) ⟨Int.le_refl _, by omega, by simp⟩ ?_)
  rintro z ⟨h0, h1, h2⟩
  by_cases hz : z < n
  · obtain ⟨L, hL⟩ : ∃ L, x[z.toNat]? = some L := ⟨_, List.getElem?_eq_getElem (by omega)⟩
    have hLm := hp L (List.mem_of_getElem? hL)
    have hXt : X[z.toNat]? = some (dSta L) := by rw [← hX, List.getElem?_map, hL]; rfl
    obtain ⟨b, hb⟩ : ∃ b, p L = b := ⟨_, rfl⟩
    rw [hb] at hLm
    
    obtain ⟨t, a, c⟩ := L
    unfold dSta at hXt hLm
    dsimp only at hXt hLm
    obtain ⟨z1, hz1⟩ : ∃ z1, z + 1 = z1 := ⟨_, rfl⟩
    repeat refine AWp.seq ?_
    refine AWp.reg1 {} hT (fun A hA => by
        have f0 := ar_lt hA hz
        repeat (cbv; simp only [f0])
        cbv) (Nat.le_refl _) ?_
    try dsimp only [AExit.then, AExit.block]
    repeat refine AWp.seq ?_
    refine AWp.cond (b := true) rfl (AWp.skip ?_)
    try dsimp only [AExit.then, AExit.block]
    repeat refine AWp.seq ?_
    refine AWp.block ?_
    repeat refine AWp.seq ?_
    refine AWp.reg1 {} hT (fun A hA => by cbv) (Nat.le_refl _) ?_
    try dsimp only [AExit.then, AExit.block]
    repeat refine AWp.seq ?_
    refine AWp.region ?_
    refine AOps.stepCallW hT (an := {}) (fun A hA => by
        have f0 := ar_get hA hXt
        have f1 := ar_le hA h0
        repeat (cbv; simp only [f0, f1])
        cbv) (Nat.le_refl _) (by first | rfl | exact hin) (by first | rfl | simp [inbL, AV.inb, hbs]) rfl (Nat.le_of_ble_eq_true rfl) rfl (by first | rfl | simp [AV.free, hbf]) (hLm) ?_
    refine AOps.done hT (an := {}) (fun A hA => by cbv) (Nat.le_refl _) ?_
    try dsimp only [AExit.then, AExit.block]
    cases b with
    | true =>
      repeat refine AWp.seq ?_
      refine AWp.cond (b := true) rfl ?_
      rw [if_pos rfl]
      repeat refine AWp.seq ?_
      refine AWp.reg1 {} hT (fun A hA => by cbv) (Nat.le_refl _) ?_
      try dsimp only [AExit.then, AExit.block]
      refine AWp.ret ⟨?_, rfl, hin, Nat.le_refl _, [], by simp⟩
      have : x.findIdx? p = some z.toNat := by
        rw [List.findIdx?_eq_some_iff_getElem]
        refine ⟨by omega, ?_, fun j hj => ?_⟩
        · rw [List.getElem?_eq_getElem (by omega)] at hL; injection hL with hL; rw [hL]; exact hb
        · have := h2 x[j] (by rw [List.mem_take_iff_getElem]; exact ⟨j, by omega, rfl⟩)
          simp [this]
      rw [this]
      show _ = some (AI (z.toNat : Int))
      rw [show (z.toNat : Int) = z by omega]
      rfl
    | false =>
      repeat refine AWp.seq ?_
      refine AWp.cond (b := false) rfl (AWp.skip ?_)
      try dsimp only [AExit.then, AExit.block]
      repeat refine AWp.seq ?_
      refine AWp.reg1 {} hT (fun A hA => by
          have f0 := ar_add hA z 1 z1 hz1 (by omega) (by omega)
          repeat (cbv; simp only [f0])
          cbv) (Nat.le_refl _) ?_
      try dsimp only [AExit.then, AExit.block]
      refine ⟨z1, ⟨by omega, by omega, ?_⟩, by omega, by cbv⟩
      intro l hl
      rw [show z1.toNat = z.toNat + 1 by omega, List.take_add_one, hL] at hl
      simp at hl
      rcases hl with hl | rfl
      · exact h2 l hl
      · exact hb
  · repeat refine AWp.seq ?_
    refine AWp.reg1 {} hT (fun A hA => by
        have f0 := ar_nlt hA hz
        repeat (cbv; simp only [f0])
        cbv) (Nat.le_refl _) ?_
    try dsimp only [AExit.then, AExit.block]
    repeat refine AWp.seq ?_
    refine AWp.cond (b := false) rfl (AWp.exit ?_)
    try dsimp only [AExit.then, AExit.block]
    rw [if_pos rfl]
    repeat refine AWp.seq ?_
    refine AWp.reg1 {} hT (fun A hA => by cbv) (Nat.le_refl _) ?_
    try dsimp only [AExit.then, AExit.block]
    refine AWp.ret ⟨?_, rfl, hin, Nat.le_refl _, [], by simp⟩
    have : x.findIdx? p = none := by
      rw [List.findIdx?_eq_none_iff]
      intro y hy
      exact h2 y (by rw [List.take_of_length_le (by omega)]; exact hy)
    rw [this]
    rfl

theorem contains98 (x : List (Sta)) (hx : x.length ≤ 9223372036854775807) (f : FuncId) (bs : List AV) (H : List Obj) (p : Sta → Bool) (hin : objsInb H.length H = true) (hbs : inbL H.length bs = true) (hbf : bs.all AV.free = true)
    (hp : ∀ l ∈ x, ACall P f (.d (dSta l) :: bs) H (AB (p l)) H) : ACall P 119 [.d (.list 3 (x.map dSta)), .func f [] bs] H (AB (x.any p)) H := by
  obtain ⟨r, hr, hc⟩ := index98 x hx f bs H p hin hbs hbf hp
  obtain ⟨b, hb⟩ : ∃ b, x.any p = b := ⟨_, rfl⟩
  rw [hb] at hr ⊢
  obtain ⟨X, hX⟩ : ∃ X, x.map dSta = X := ⟨_, rfl⟩
  rw [hX] at hc ⊢
  refine ACall.enter hT (fn := Try.f119) Try.func119 rfl (by decide) (by simp [Try.f119]) rfl rfl rfl hin (Nat.le_refl _) ?_
  repeat refine AWp.seq ?_
  refine AWp.reg1 {} hT (fun A hA => by cbv) (Nat.le_refl _) ?_
  try dsimp only [AExit.then, AExit.block]
  repeat refine AWp.seq ?_
  refine AWp.region ?_
  refine AOps.stepCallW hT (an := {}) (fun A hA => by cbv) (Nat.le_refl _) (by first | rfl | exact hin) (by first | rfl | simp [inbL, AV.inb, hbs]) rfl (Nat.le_of_ble_eq_true rfl) rfl (by first | rfl | simp [AV.free, hbf]) (hc) ?_
  have hrb : ∀ A : Ar, A = Ar.std → A.zle 0 r = b := fun A hA => by subst hA; exact hr
  refine AOps.done hT (an := {}) (fun A hA => by
      have f0 := hrb A hA
      repeat (cbv; simp only [f0])
      cbv) (Nat.le_refl _) ?_
  try dsimp only [AExit.then, AExit.block]
  refine AWp.ret ⟨rfl, rfl, hin, Nat.le_refl _, [], by simp⟩
end Go.Am

set_option maxRecDepth 100000
set_option linter.unusedVariables false
set_option linter.unusedSimpArgs false
namespace Go.Am
open Go Go.Proofs

def badAcc (a : Acc) : Bool := !(decide (0 ≤ a.1) && decide (a.1 ≤ 2))
def badL (l : List Acc) : Bool := decide ((4 : Int) < l.length) || l.any badAcc
def valid (x : List (List Acc)) : Bool := (decide ((1 : Int) ≤ x.length) && decide ((x.length : Int) ≤ 3)) && !x.any badL
/-- Sizes that a machine can hold. -/
def Big (x : List (List Acc)) : Prop := x.length ≤ 9223372036854775807 ∧ ∀ l ∈ x, l.length ≤ 9223372036854775807

theorem badAcc_ok (a : Acc) : ACall P 71 [.d (dAcc a)] [] (AB (badAcc a)) [] := by
  obtain ⟨v, w⟩ := a
  unfold dAcc badAcc
  dsimp only
  obtain ⟨r, hr⟩ : ∃ r, (decide (0 ≤ v) && decide (v ≤ 2)) = r := ⟨_, rfl⟩
  rw [hr]
  refine ACall.enter hT (fn := Try.f71) Try.func71 rfl (by decide) (by simp [Try.f71]) rfl rfl rfl rfl (Nat.le_refl _) ?_
  repeat refine AWp.seq ?_
  refine AWp.reg1 {} hT (fun A hA => by cbv) (Nat.zero_le _) ?_
  try dsimp only [AExit.then, AExit.block]
  repeat refine AWp.seq ?_
  refine AWp.region ?_
  refine AOps.stepCall hT (an := {}) (fun A hA => by cbv) (Nat.zero_le _) rfl (.inr rfl) rfl rfl rfl (Nat.le_of_ble_eq_true rfl) rfl rfl (between_ok' _ _ _ r hr) ?_
  refine AOps.done hT (an := {}) (fun A hA => by cbv) (Nat.zero_le _) ?_
  try dsimp only [AExit.then, AExit.block]
  repeat refine AWp.seq ?_
  refine AWp.ret ⟨?_, rfl, rfl, Nat.zero_le _, _, rfl⟩
  rfl

theorem badL_ok (l : List Acc) (hl : l.length ≤ 9223372036854775807) : ACall P 69 [.d (dAccs l)] [] (AB (badL l)) [] := by
  have hc := contains25 l hl 71 [] [] badAcc rfl rfl rfl (fun a _ => badAcc_ok a)
  unfold dAccs badL
  obtain ⟨L, hL⟩ : ∃ L, l.map dAcc = L := ⟨_, rfl⟩
  obtain ⟨n, hn⟩ : ∃ n : Int, (L.length : Int) = n := ⟨_, rfl⟩
  have hln : (l.length : Int) = n := by rw [← hn, ← hL]; simp
  obtain ⟨r, hr⟩ : ∃ r, l.any badAcc = r := ⟨_, rfl⟩
  rw [hL, hr] at hc
  rw [hL, hr, hln]
  refine ACall.enter hT (fn := Try.f69) Try.func69 rfl (by decide) (by simp [Try.f69]) rfl rfl rfl rfl (Nat.le_refl _) ?_
  repeat refine AWp.seq ?_
  refine AWp.reg1 {} hT (fun A hA => by cbv) (Nat.zero_le _) ?_
  try dsimp only [AExit.then, AExit.block]
  by_cases h : 4 < n
  · repeat refine AWp.seq ?_
    refine AWp.reg1 {} hT (fun A hA => by
        have f0 := ar_len hA L n hn
        have f1 := ar_lt hA h
        repeat (cbv; simp only [f0, f1])
        cbv) (Nat.zero_le _) ?_
    try dsimp only [AExit.then, AExit.block]
    repeat refine AWp.seq ?_
    refine AWp.ret ⟨?_, rfl, rfl, Nat.zero_le _, _, rfl⟩
    simp [h]; rfl
  · repeat refine AWp.seq ?_
    refine AWp.region ?_
    refine AOps.stepCall hT (an := {}) (fun A hA => by
        have f0 := ar_len hA L n hn
        have f1 := ar_nlt hA h
        repeat (cbv; simp only [f0, f1])
        cbv) (Nat.zero_le _) rfl (.inr rfl) rfl rfl rfl (Nat.le_of_ble_eq_true rfl) rfl rfl (hc) ?_
    refine AOps.done hT (an := {}) (fun A hA => by cbv) (Nat.zero_le _) ?_
    try dsimp only [AExit.then, AExit.block]
    repeat refine AWp.seq ?_
    refine AWp.ret ⟨?_, rfl, rfl, Nat.zero_le _, _, rfl⟩
    simp [h]; rfl

theorem valid_ok (x : List (List Acc)) (hx : Big x) : ACall P 20 [.d (dX x)] [] (AB (valid x)) [] := by
  have hc := contains22 x hx.1 69 [] [] badL rfl rfl rfl (fun a ha => badL_ok a (hx.2 a ha))
  unfold dX valid
  obtain ⟨X, hX⟩ : ∃ X, x.map dAccs = X := ⟨_, rfl⟩
  obtain ⟨n, hn⟩ : ∃ n : Int, (X.length : Int) = n := ⟨_, rfl⟩
  have hxl : (x.length : Int) = n := by rw [← hn, ← hX]; simp
  obtain ⟨r, hr⟩ : ∃ r, x.any badL = r := ⟨_, rfl⟩
  rw [hX, hr] at hc
  rw [hX, hr, hxl]
  refine ACall.enter hT (fn := Try.f20) Try.func20 rfl (by decide) (by simp [Try.f20]) rfl rfl rfl rfl (Nat.le_refl _) ?_
  repeat refine AWp.seq ?_
  refine AWp.reg1 {} hT (fun A hA => by cbv) (Nat.zero_le _) ?_
  try dsimp only [AExit.then, AExit.block]
  by_cases h : 1 ≤ n ∧ n ≤ 3
  · repeat refine AWp.seq ?_
    refine AWp.region ?_
    refine AOps.stepCall hT (an := {}) (fun A hA => by
        have f0 := ar_len hA X n hn
        repeat (cbv; simp only [f0])
        cbv) (Nat.zero_le _) rfl (.inr rfl) rfl rfl rfl (Nat.le_of_ble_eq_true rfl) rfl rfl (between_ok' _ _ _ true (by simp; exact h)) ?_
    refine AOps.stepCall hT (an := {}) (fun A hA => by cbv) (Nat.zero_le _) rfl (.inr rfl) rfl rfl rfl (Nat.le_of_ble_eq_true rfl) rfl rfl (hc) ?_
    refine AOps.done hT (an := {}) (fun A hA => by cbv) (Nat.zero_le _) ?_
    try dsimp only [AExit.then, AExit.block]
    repeat refine AWp.seq ?_
    refine AWp.ret ⟨?_, rfl, rfl, Nat.zero_le _, _, rfl⟩
    simp [h.1, h.2]; rfl
  · repeat refine AWp.seq ?_
    refine AWp.region ?_
    refine AOps.stepCall hT (an := {}) (fun A hA => by
        have f0 := ar_len hA X n hn
        repeat (cbv; simp only [f0])
        cbv) (Nat.zero_le _) rfl (.inr rfl) rfl rfl rfl (Nat.le_of_ble_eq_true rfl) rfl rfl (between_ok' _ _ _ false (by simp; omega)) ?_
    refine AOps.done hT (an := {}) (fun A hA => by cbv) (Nat.zero_le _) ?_
    try dsimp only [AExit.then, AExit.block]
    repeat refine AWp.seq ?_
    refine AWp.ret ⟨?_, rfl, rfl, Nat.zero_le _, _, rfl⟩
    have : (decide (1 ≤ n) && decide (n ≤ 3)) = false := by simp; omega
    rw [this]; rfl

/-- Too many accesses for a statement. -/
def long (x : List (List Acc)) : Bool := x.any (fun l => decide ((20 : Int) < l.length)) || decide ((20 : Int) < x.length)
theorem long_ok (x : List (List Acc)) (hx : Big x) : ACall P 13 [.d (dX x)] [] (AB (long x)) [] := by
  unfold dX
  obtain ⟨X, hX⟩ : ∃ X, x.map dAccs = X := ⟨_, rfl⟩
  obtain ⟨n, hn⟩ : ∃ n : Int, (X.length : Int) = n := ⟨_, rfl⟩
  have hxl : (x.length : Int) = n := by rw [← hn, ← hX]; simp
  have hs := hx.1
  rw [hX]
  refine ACall.enter hT (fn := Try.f13) Try.func13 rfl (by decide) (by simp [Try.f13]) rfl rfl rfl rfl (Nat.le_refl _) ?_
  repeat refine AWp.seq ?_
  refine AWp.reg1 {} hT (fun A hA => by cbv) (Nat.zero_le _) ?_
  try dsimp only [AExit.then, AExit.block]
  repeat refine AWp.seq ?_
  refine AWp.reg1 {} hT (fun A hA => by
      have f0 := ar_len hA X n hn
      repeat (cbv; simp only [f0])
      cbv) (Nat.zero_le _) ?_
  try dsimp only [AExit.then, AExit.block]
  refine AWp.block (AWp.loopInv (ι := Int) (fun z => 0 ≤ z ∧ z ≤ n ∧ ∀ l ∈ x.take z.toNat, ¬ (20 : Int) < l.length) (fun z => (n - z).toNat) [0, 5, 6, 7]
    (fun z => { env := [(0, .d (.list 1 X)), (5, .d (.list 1 X)), (6, AI n), (7, AI z)], heap := [], n := 18 }) 0 (by cbv) ⟨Int.le_refl _, by omega, by simp⟩ ?_)
  rintro z ⟨h0, h1, h2⟩
  by_cases hz : z < n
  · obtain ⟨L, hL⟩ : ∃ L, x[z.toNat]? = some L := ⟨_, List.getElem?_eq_getElem (by omega)⟩
    obtain ⟨L', hL'⟩ : ∃ L', L.map dAcc = L' := ⟨_, rfl⟩
    obtain ⟨k, hk⟩ : ∃ n : Int, (L'.length : Int) = n := ⟨_, rfl⟩
    have hkL : (L.length : Int) = k := by rw [← hk, ← hL']; simp
    have hXt : X[z.toNat]? = some (.list 2 L') := by rw [← hX, List.getElem?_map, hL, ← hL']; rfl
    obtain ⟨z1, hz1⟩ : ∃ z1, z + 1 = z1 := ⟨_, rfl⟩
    repeat refine AWp.seq ?_
    refine AWp.reg1 {} hT (fun A hA => by
        have f0 := ar_lt hA hz
        repeat (cbv; simp only [f0])
        cbv) (Nat.zero_le _) ?_
    try dsimp only [AExit.then, AExit.block]
    repeat refine AWp.seq ?_
    refine AWp.cond (b := true) rfl (AWp.skip ?_)
    try dsimp only [AExit.then, AExit.block]
    repeat refine AWp.seq ?_
    refine AWp.block ?_
    repeat refine AWp.seq ?_
    refine AWp.reg1 {} hT (fun A hA => by
        have f0 := ar_get hA hXt
        have f1 := ar_le hA h0
        repeat (cbv; simp only [f0, f1])
        cbv) (Nat.zero_le _) ?_
    try dsimp only [AExit.then, AExit.block]
    by_cases h : 20 < k
    · repeat refine AWp.seq ?_
      refine AWp.reg1 {} hT (fun A hA => by
          have f0 := ar_len hA L' k hk
          have f1 := ar_lt hA h
          repeat (cbv; simp only [f0, f1])
          cbv) (Nat.zero_le _) ?_
      try dsimp only [AExit.then, AExit.block]
      repeat refine AWp.seq ?_
      refine AWp.cond (b := true) rfl ?_
      rw [if_pos rfl]
      repeat refine AWp.seq ?_
      refine AWp.reg1 {} hT (fun A hA => by cbv) (Nat.zero_le _) ?_
      try dsimp only [AExit.then, AExit.block]
      repeat refine AWp.seq ?_
      refine AWp.ret ⟨?_, rfl, rfl, Nat.zero_le _, _, rfl⟩
      have : long x = true := by
        unfold long
        rw [List.any_eq_true.2 ⟨L, List.mem_of_getElem? hL, by simpa [hkL] using h⟩]; rfl
      rw [this]; rfl
    · repeat refine AWp.seq ?_
      refine AWp.reg1 {} hT (fun A hA => by
          have f0 := ar_len hA L' k hk
          have f1 := ar_nlt hA h
          repeat (cbv; simp only [f0, f1])
          cbv) (Nat.zero_le _) ?_
      try dsimp only [AExit.then, AExit.block]
      repeat refine AWp.seq ?_
      refine AWp.cond (b := false) rfl (AWp.skip ?_)
      try dsimp only [AExit.then, AExit.block]
      repeat refine AWp.seq ?_
      refine AWp.reg1 {} hT (fun A hA => by
          have f0 := ar_add hA z 1 z1 hz1 (by omega) (by omega)
          repeat (cbv; simp only [f0])
          cbv) (Nat.zero_le _) ?_
      try dsimp only [AExit.then, AExit.block]
      refine ⟨z1, ⟨by omega, by omega, ?_⟩, by omega, by cbv⟩
      intro l hl
      rw [show z1.toNat = z.toNat + 1 by omega, List.take_add_one, hL] at hl
      simp at hl
      rcases hl with hl | rfl
      · exact h2 l hl
      · omega
  · repeat refine AWp.seq ?_
    refine AWp.reg1 {} hT (fun A hA => by
        have f0 := ar_nlt hA hz
        repeat (cbv; simp only [f0])
        cbv) (Nat.zero_le _) ?_
    try dsimp only [AExit.then, AExit.block]
    repeat refine AWp.seq ?_
    refine AWp.cond (b := false) rfl (AWp.exit ?_)
    try dsimp only [AExit.then, AExit.block]
    rw [if_pos rfl]
    rw [List.take_of_length_le (by omega)] at h2
    have hany : x.any (fun l => decide ((20 : Int) < l.length)) = false := List.any_eq_false.2 (fun y hy => by simpa using h2 y hy)
    by_cases h : 20 < n
    · repeat refine AWp.seq ?_
      refine AWp.reg1 {} hT (fun A hA => by
          have f0 := ar_len hA X n hn
          have f1 := ar_lt hA h
          repeat (cbv; simp only [f0, f1])
          cbv) (Nat.zero_le _) ?_
      try dsimp only [AExit.then, AExit.block]
      repeat refine AWp.seq ?_
      refine AWp.ret ⟨?_, rfl, rfl, Nat.zero_le _, _, rfl⟩
      simp [long, hany, hxl, h]; rfl
    · repeat refine AWp.seq ?_
      refine AWp.reg1 {} hT (fun A hA => by
          have f0 := ar_len hA X n hn
          have f1 := ar_nlt hA h
          repeat (cbv; simp only [f0, f1])
          cbv) (Nat.zero_le _) ?_
      try dsimp only [AExit.then, AExit.block]
      repeat refine AWp.seq ?_
      refine AWp.ret ⟨?_, rfl, rfl, Nat.zero_le _, _, rfl⟩
      simp [long, hany, hxl, h]; rfl
end Go.Am
