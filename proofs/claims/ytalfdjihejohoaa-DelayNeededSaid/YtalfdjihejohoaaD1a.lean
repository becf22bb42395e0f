/- Own text: D1a. -/
import Derived.Test.YtalfdjihejohoaaD1T
set_option maxRecDepth 100000
set_option linter.unusedVariables false
set_option linter.unusedSimpArgs false
namespace Go.Am
open Go Go.Proofs
noncomputable abbrev P := Try.prog
abbrev I (n : Int) : D := .int .i64 n
abbrev AI (n : Int) : AV := .d (.int .i64 n)
abbrev AB (b : Bool) : AV := .d (.bool b)

theorem wrapI (n : Int) (h0 : -9223372036854775808 ≤ n) (h1 : n < 9223372036854775808) : IntKind.i64.wrap n = n := by
  simp [IntKind.wrap_i64]; omega
theorem ar_len {A : Ar} (hA : A = Ar.std) (l : List D) (n : Int) (h : (l.length : Int) = n) : A.len l = n := by subst hA; exact h
theorem ar_sub {A : Ar} (hA : A = Ar.std) (x y z : Int) (h : x - y = z) (h0 : -9223372036854775808 ≤ z) (h1 : z < 9223372036854775808) : A.wrp .i64 (A.zsub x y) = z := by subst hA; subst h; exact wrapI _ h0 h1
theorem ar_add {A : Ar} (hA : A = Ar.std) (x y z : Int) (h : x + y = z) (h0 : -9223372036854775808 ≤ z) (h1 : z < 9223372036854775808) : A.wrp .i64 (A.zadd x y) = z := by subst hA; subst h; exact wrapI _ h0 h1
theorem ar_le {A : Ar} (hA : A = Ar.std) {x y : Int} (h : x ≤ y) : A.zle x y = true := by subst hA; simpa [Ar.std] using h
theorem ar_nle {A : Ar} (hA : A = Ar.std) {x y : Int} (h : ¬ x ≤ y) : A.zle x y = false := by subst hA; simpa [Ar.std] using h
theorem ar_lt {A : Ar} (hA : A = Ar.std) {x y : Int} (h : x < y) : A.zlt x y = true := by subst hA; simpa [Ar.std] using h
theorem ar_nlt {A : Ar} (hA : A = Ar.std) {x y : Int} (h : ¬ x < y) : A.zlt x y = false := by subst hA; simpa [Ar.std] using h
theorem ar_eq {A : Ar} (hA : A = Ar.std) {x y : Int} (h : x = y) : A.zeq x y = true := by subst hA; simpa [Ar.std] using h
theorem ar_ne {A : Ar} (hA : A = Ar.std) {x y : Int} (h : ¬ x = y) : A.zeq x y = false := by subst hA; simpa [Ar.std] using h
theorem ar_get {A : Ar} (hA : A = Ar.std) {l : List D} {x : Int} {y : D} (h : l[x.toNat]? = some y) : A.lget l (A.nat x) = some y := by subst hA; exact h

abbrev Acc := Int × Bool
def dAcc (a : Acc) : D := .agg [I a.1, .bool a.2]
def dAccs (l : List Acc) : D := .list 2 (l.map dAcc)
def dX (x : List (List Acc)) : D := .list 1 (x.map dAccs)

theorem between_ok (lo x hi : Int) : ACall P 67 [AI lo, AI x, AI hi] [] (AB (decide (lo ≤ x) && decide (x ≤ hi))) [] := by
  refine ACall.enter hT (fn := Try.f67) Try.func67 rfl (by decide) (by simp [Try.f67]) rfl rfl rfl rfl (Nat.le_refl _) ?_
  refine AWp.seq (AWp.region (AOps.done hT (an := {}) (fun A hA => by cbv) (Nat.zero_le _) ?_))
  by_cases h : lo ≤ x
  · refine AWp.seq (AWp.region (AOps.done hT (an := {}) (fun A hA => by
      have h1 : A.zle lo x = true := by subst hA; simpa [Ar.std] using h
      cbv
      simp only [h1]
      cbv
      subst hA; dsimp only [Ar.std]) (Nat.zero_le _) ?_))
    refine AWp.ret ⟨?_, rfl, rfl, Nat.zero_le _, [], rfl⟩
    simp [h]
    rfl
  · refine AWp.seq (AWp.region (AOps.done hT (an := {}) (fun A hA => by
      have h1 : A.zle lo x = false := by subst hA; simpa [Ar.std] using h
      cbv
      simp only [h1]
      cbv) (Nat.zero_le _) ?_))
    refine AWp.ret ⟨?_, rfl, rfl, Nat.zero_le _, [], rfl⟩
    simp [h]
    rfl

theorem at_ok (X L : List D) (t a v : Int) (b : Bool) (h0 : 0 ≤ t) (h1 : X[t.toNat]? = some (.list 2 L)) (h2 : 0 ≤ a) (h3 : L[a.toNat]? = some (.agg [I v, .bool b])) :
    ACall P 113 [.d (.list 1 X), .d (.agg [I t, I a])] [] (.d (.agg [I v, .bool b])) [] := by
  refine ACall.enter hT (fn := Try.f113) Try.func113 rfl (by decide) (by simp [Try.f113]) rfl rfl rfl rfl (Nat.le_refl _) ?_
  refine AWp.reg {} hT (fun A hA => by cbv) (Nat.zero_le _) ?_
  refine AWp.regD {} hT rfl (fun A hA => by
      have e0 : A.zle 0 t = true := by subst hA; simpa [Ar.std] using h0
      have e1 : A.lget X (A.nat t) = some (.list 2 L) := by subst hA; simpa [Ar.std] using h1
      have e2 : A.zle 0 a = true := by subst hA; simpa [Ar.std] using h2
      have e3 : A.lget L (A.nat a) = some (.agg [I v, .bool b]) := by subst hA; simpa [Ar.std] using h3
      repeat (cbv; simp only [e0, e1, e2, e3])
      cbv) (by kernel_rfl) (Nat.zero_le _) ?_
  refine AWp.ret ⟨?_, rfl, rfl, Nat.zero_le _, [], rfl⟩
  rfl
theorem between_ok' (lo x hi : Int) (r : Bool) (h : (decide (lo ≤ x) && decide (x ≤ hi)) = r) : ACall P 67 [AI lo, AI x, AI hi] [] (AB r) [] := h ▸ between_ok lo x hi

theorem in_ok (s0 s1 s2 : Int) : ACall P 112 [.d (.agg [I s0, I s1, I s2])] [] (.d (.agg [I s0, I s1])) [] := by
  refine ACall.enter hT (fn := Try.f112) Try.func112 rfl (by decide) (by simp [Try.f112]) rfl rfl rfl rfl (Nat.le_refl _) ?_
  refine AWp.reg {} hT (fun A hA => by cbv) (Nat.zero_le _) ?_
  refine AWp.reg {} hT (fun A hA => by cbv) (Nat.zero_le _) ?_
  exact AWp.ret ⟨rfl, rfl, rfl, Nat.zero_le _, [], rfl⟩
theorem out_ok (s0 s1 s2 : Int) : ACall P 111 [.d (.agg [I s0, I s1, I s2])] [] (.d (.agg [I s0, I s2])) [] := by
  refine ACall.enter hT (fn := Try.f111) Try.func111 rfl (by decide) (by simp [Try.f111]) rfl rfl rfl rfl (Nat.le_refl _) ?_
  refine AWp.reg {} hT (fun A hA => by cbv) (Nat.zero_le _) ?_
  refine AWp.reg {} hT (fun A hA => by cbv) (Nat.zero_le _) ?_
  exact AWp.ret ⟨rfl, rfl, rfl, Nat.zero_le _, [], rfl⟩

/-- Sizes that are small enough. -/
def Small (x : List (List Acc)) : Prop := x.length ≤ 1000 ∧ ∀ l ∈ x, l.length ≤ 1000
def there (x : List (List Acc)) (t a : Int) : Bool := decide (0 ≤ t) && (match x[t.toNat]? with | some l => decide (0 ≤ a) && decide (a < l.length) | none => false)

theorem there_ok (x : List (List Acc)) (t a : Int) (hx : Small x) : ACall P 64 [.d (dX x), .d (.agg [I t, I a])] [] (AB (there x t a)) [] := by
  obtain ⟨X, hX⟩ : ∃ X, x.map dAccs = X := ⟨_, rfl⟩
  obtain ⟨n, hn⟩ : ∃ n : Int, (X.length : Int) = n := ⟨_, rfl⟩
  obtain ⟨n1, hn1⟩ : ∃ n1 : Int, n - 1 = n1 := ⟨_, rfl⟩
  have hxl : (x.length : Int) = n := by rw [← hn, ← hX]; simp
  have hs := hx.1
  unfold dX
  rw [hX]
  refine ACall.enter hT (fn := Try.f64) Try.func64 rfl (by decide) (by simp [Try.f64]) rfl rfl rfl rfl (Nat.le_refl _) ?_
  refine AWp.reg {} hT (fun A hA => by cbv) (Nat.zero_le _) ?_
  by_cases h : 0 ≤ t ∧ t < n
  · obtain ⟨L, hL⟩ : ∃ L, x[t.toNat]? = some L := ⟨_, List.getElem?_eq_getElem (by omega)⟩
    obtain ⟨L', hL'⟩ : ∃ L', L.map dAcc = L' := ⟨_, rfl⟩
    obtain ⟨k, hk⟩ : ∃ n : Int, (L'.length : Int) = n := ⟨_, rfl⟩
    obtain ⟨k1, hk1⟩ : ∃ n1 : Int, k - 1 = n1 := ⟨_, rfl⟩
    obtain ⟨r, hr⟩ : ∃ r, (decide (0 ≤ a) && decide (a < k)) = r := ⟨_, rfl⟩
    have hkL : (L.length : Int) = k := by rw [← hk, ← hL']; simp
    have hs2 := hx.2 L (List.mem_of_getElem? hL)
    have hXt : X[t.toNat]? = some (.list 2 L') := by rw [← hX, List.getElem?_map, hL, ← hL']; rfl
    refine AWp.seq (AWp.regionDraw rfl (Nat.zero_le _) (DOps.stepCall hT (an := {}) rfl (fun A hA => by
      have e1 := ar_len hA X n hn
      have e2 := ar_sub hA n 1 n1 hn1 (by omega) (by omega)
      repeat (cbv; simp only [e1, e2])
      cbv) rfl rfl (Nat.le_of_ble_eq_true rfl) rfl rfl (between_ok' _ _ _ true (by simp; omega)) ?_))
    refine DOps.stepCall hT (an := {}) rfl (fun A hA => by
      have e1 := ar_len hA L' k hk
      have e2 := ar_sub hA k 1 k1 hk1 (by omega) (by omega)
      have e3 := ar_get hA hXt
      have e4 := ar_le hA h.1
      repeat (cbv; simp only [e1, e2, e3, e4])
      cbv) rfl rfl (Nat.le_of_ble_eq_true rfl) rfl rfl (between_ok' _ _ _ r (by rw [← hr]; congr 1; simp; omega)) ?_
    refine DOps.done hT (an := {}) rfl (fun A hA => by cbv) (by kernel_rfl) ?_
    refine AWp.ret ⟨?_, rfl, rfl, Nat.zero_le _, [], rfl⟩
    simp [there, h.1, hL, hkL, hr]
    rfl
  · refine AWp.seq (AWp.regionDraw rfl (Nat.zero_le _) (DOps.stepCall hT (an := {}) rfl (fun A hA => by
      have e1 := ar_len hA X n hn
      have e2 := ar_sub hA n 1 n1 hn1 (by omega) (by omega)
      repeat (cbv; simp only [e1, e2])
      cbv) rfl rfl (Nat.le_of_ble_eq_true rfl) rfl rfl (between_ok' _ _ _ false (by simp; omega)) ?_))
    refine DOps.done hT (an := {}) rfl (fun A hA => by cbv) (by kernel_rfl) ?_
    refine AWp.ret ⟨?_, rfl, rfl, Nat.zero_le _, [], rfl⟩
    have : there x t a = false := by
      unfold there
      by_cases h0 : 0 ≤ t
      · rw [List.getElem?_eq_none (by omega)]; simp
      · simp [h0]
    rw [this]
    rfl
end Go.Am
