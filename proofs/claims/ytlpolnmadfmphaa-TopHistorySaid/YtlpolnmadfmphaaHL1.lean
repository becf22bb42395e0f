/- Own text: HL1. -/
import Derived.Test.YtlpolnmadfmphaaGenp0
set_option maxRecDepth 100000
set_option linter.unusedVariables false
set_option linter.unusedSimpArgs false
namespace Go.Am
open Go
abbrev Call := Int × Int × Int × Int × Int × Int
abbrev cCall : Cod Call := cG (lc (cI .i64) (lc (cI .i64) (lc (cI .i64) (lc (cI .i64) (lc (cI .i64) (l1 (cI .i64)))))))
abbrev cSpec : Cod (Int × Int × List D × List D) := cG (lc (cI .i64) (lc (cI .i64) (lc (cL 1) (l1 (cL 1)))))
abbrev Tab := List (List Int)
def eTab (t : Tab) : List D := enc (cL 1) (t.map (enc (cI .i64)))
abbrev Spec := Int × Int × Tab × Tab
def eSpec (s : Spec) : Int × Int × List D × List D := (s.1, s.2.1, eTab s.2.2.1, eTab s.2.2.2)
abbrev eSpecs (l : List Spec) : List D := enc cSpec (l.map eSpec)
abbrev eCalls (h : List Call) : List D := enc cCall h
abbrev eInts (l : List Int) : List D := enc (cI .i64) l
abbrev Lg : Nat := 9223372036854775808
def TabOk (t : Tab) : Prop := t.length < Lg ∧ ∀ r ∈ t, r.length < Lg
def SpecsOk (l : List Spec) : Prop := l.length < Lg ∧ ∀ s ∈ l, TabOk s.2.2.1 ∧ TabOk s.2.2.2
namespace Call
abbrev th (c : Call) : Int := c.1
abbrev ob (c : Call) : Int := c.2.1
abbrev op (c : Call) : Int := c.2.2.1
abbrev sa (c : Call) : Int := c.2.2.2.1
abbrev fr (c : Call) : Int := c.2.2.2.2.1
abbrev to (c : Call) : Int := c.2.2.2.2.2
end Call
def btw (a b c : Int) : Bool := decide (a ≤ b) && decide (b ≤ c)
@[simp] theorem btw_true (a b c : Int) : btw a b c = true ↔ a ≤ b ∧ b ≤ c := by simp [btw]
theorem H77_eq (a b c : Int) : H77 Ar.std a b c = some (btw a b c) := by simp [H77, btw]
theorem H120_eq (a b c : Int) : H120 Ar.std a b c = some (btw a b c) := by simp [H120, btw]
theorem H67_eq (a b c : Int) : H67 Ar.std a b c = some (btw a b c) := by simp [H67, btw]
@[simp] theorem length_eTab (t : Tab) : (eTab t).length = t.length := by simp [eTab]
theorem len_eTab (t : Tab) : Ar.std.len (eTab t) = (t.length : Int) := by simp
theorem gt_eTab {t : Tab} {i : Nat} {r : List Int} (h : t[i]? = some r) : gt Ar.std (cL 1) (eTab t) (i : Int) = some (eInts r) := gt_enc_map h
theorem gt_eTabI {t : Tab} {i : Int} {r : List Int} (h0 : 0 ≤ i) (h : t[i.toNat]? = some r) : gt Ar.std (cL 1) (eTab t) i = some (eInts r) := gt_enc_mapI h0 h
theorem gt_eSpecs {l : List Spec} {i : Nat} {s : Spec} (h : l[i]? = some s) : gt Ar.std cSpec (eSpecs l) (i : Int) = some (s.1, s.2.1, eTab s.2.2.1, eTab s.2.2.2) := gt_enc_map h
theorem gt_eSpecsI {l : List Spec} {i : Int} {s : Spec} (h0 : 0 ≤ i) (h : l[i.toNat]? = some s) : gt Ar.std cSpec (eSpecs l) i = some (s.1, s.2.1, eTab s.2.2.1, eTab s.2.2.2) := gt_enc_mapI h0 h
theorem len_eSpecs (l : List Spec) : Ar.std.len (eSpecs l) = (l.length : Int) := by simp [eSpecs]
theorem ltC {i n : Nat} (h : i < n) : decide ((i : Int) < (n : Int)) = true := by simp; omega
def longT (t : Tab) : Bool := t.any fun r => decide (20 < (r.length : Int))
def largeS (l : List Spec) : Bool := (l.any fun s => decide (20 < (s.2.2.1.length : Int)) || decide (20 < (s.2.2.2.length : Int)) || longT s.2.2.1 || longT s.2.2.2) || decide (5 < (l.length : Int))
theorem H17L0_eq (t : Tab) (ht : TabOk t) : iter (H17L0 Ar.std (eTab t)) 0 = some (bif longT t then .inr () else .inl ()) := by
  refine iter_any t _ _ _ (fun i r hr hi => ?_) ?_
  · simp [H17L0, gt_eTab hr, hi, wrap1 hi ht.1]
  · simp [H17L0]
theorem H17L1_eq (t : Tab) (ht : TabOk t) : iter (H17L1 Ar.std (eTab t)) 0 = some (bif longT t then .inr () else .inl ()) := H17L0_eq t ht
theorem H17_eq (l : List Spec) (hl : SpecsOk l) : H17 Ar.std (eSpecs l) = some (largeS l) := by
  have e : iter (H17L2 Ar.std (eSpecs l)) 0 = some (bif (l.any fun s => decide (20 < (s.2.2.1.length : Int)) || decide (20 < (s.2.2.2.length : Int)) || longT s.2.2.1 || longT s.2.2.2) then .inr () else .inl ()) := by
    refine iter_any l _ _ _ (fun i s hs hi => ?_) ?_
    · obtain ⟨h1, h2⟩ := hl.2 s (List.mem_of_getElem? hs)
      simp only [H17L2, gt_eSpecs hs, bsome, H17L0_eq _ h1, H17L1_eq _ h2, std_zlt, len_eSpecs, len_eTab, ltC hi, cond_true, std_wrp, std_zadd, wrap1 hi hl.1]
      cases decide (20 < (s.2.2.1.length : Int)) <;> cases decide (20 < (s.2.2.2.length : Int)) <;> cases longT s.2.2.1 <;> cases longT s.2.2.2 <;> rfl
    · simp [H17L2]
  unfold H17
  rw [e]
  simp only [largeS, bsome, std_zlt, len_eSpecs]
  cases l.any _ <;> rfl
theorem H18_eq (h : List Call) : H18 Ar.std (eCalls h) = some (decide (40 < (h.length : Int))) := by
  simp [H18]
end Go.Am
namespace Go.Am
def rowOk (ops lim : Int) (r : List Int) : Bool := decide ((r.length : Int) = ops) && r.all fun n => btw 0 n lim
def tabOk (st ops lim : Int) (t : Tab) : Bool := decide ((t.length : Int) = st) && t.all (rowOk ops lim)
def specOk (s : Spec) : Bool := btw 1 s.1 8 && (btw 1 s.2.1 4 && (tabOk s.1 s.2.1 (s.1 - 1) s.2.2.1 && tabOk s.1 s.2.1 5 s.2.2.2))
section
variable (a b : Int) (t u : List D) (lim : Int)
theorem H128_eq (r : List Int) (hr : r.length < Lg) : H128 Ar.std (eInts r) a b t u lim = some (r.any fun n => !btw 0 n lim) := by
  have e : iter (H131L0 Ar.std (eInts r) a b t u lim) 0 = some ((r.findIdx? fun n => !btw 0 n lim).elim (.inl ()) (fun i => .inr (i : Int))) := by
    refine iter_find r _ _ _ (fun i n hn hi => ?_) ?_
    · simp [H131L0, H129, H120_eq, gt_enc hn, hi, wrap1 hi hr]
    · simp [H131L0]
  simp only [H128, H131, e, bsome, find_elim, std_zle, find_le]
theorem H127_eq (r : List Int) (hr : r.length < Lg) : H127 Ar.std (eInts r) a b t u lim = some (!rowOk b lim r) := by
  simp only [H127, H128_eq a b t u lim r hr, bsome, std_zeq, len_enc, cond_some, rowOk]
  cases h : decide ((r.length : Int) = b) <;> simp [any_notB]
theorem H126_eq (x : Tab) (hx : TabOk x) : H126 Ar.std (eTab x) a b t u lim = some (x.any fun r => !rowOk b lim r) := by
  have e : iter (H130L0 Ar.std (eTab x) a b t u lim) 0 = some ((x.findIdx? fun r => !rowOk b lim r).elim (.inl ()) (fun i => .inr (i : Int))) := by
    refine iter_find x _ _ _ (fun i r hn hi => ?_) ?_
    · simp [H130L0, H127_eq a b t u lim r (hx.2 r (List.mem_of_getElem? hn)), gt_eTab hn, hi, wrap1 hi hx.1]
    · simp [H130L0]
  simp only [H126, H130, e, bsome, find_elim, std_zle, find_le]
theorem H121_eq (x : Tab) (hx : TabOk x) : H121 Ar.std a b t u (eTab x) lim = some (tabOk a b lim x) := by
  simp only [H121, H126_eq a b t u lim x hx, bsome, std_zeq, len_eTab, cond_some, tabOk]
  cases h : decide ((x.length : Int) = a) <;> simp [any_notB]
end
theorem H111_eq (s : Spec) (h1 : TabOk s.2.2.1) (h2 : TabOk s.2.2.2) : H111 Ar.std s.1 s.2.1 (eTab s.2.2.1) (eTab s.2.2.2) = some (specOk s) := by
  simp only [H111, H120_eq, H121_eq _ _ _ _ _ _ h1, H121_eq _ _ _ _ _ _ h2, bsome]
  by_cases hb : btw 1 s.1 8 = true
  · have := (btw_true _ _ _).1 hb
    simp only [std_wrp, std_zsub, wrapS (x := s.1) (by omega) (by omega), specOk, cond_some, bsome, bif_and]
  · simp [specOk, hb]
theorem H58_eq (l : List Spec) (hl : SpecsOk l) : H58 Ar.std (eSpecs l) = some (btw 1 l.length 2 && l.all specOk) := by
  have e : iter (H119L0 Ar.std (eSpecs l)) 0 = some ((l.findIdx? fun s => !specOk s).elim (.inl ()) (fun i => .inr (i : Int))) := by
    refine iter_find l _ _ _ (fun i s hn hi => ?_) ?_
    · have h := hl.2 s (List.mem_of_getElem? hn)
      simp [H119L0, H110, H111_eq s h.1 h.2, gt_eSpecs hn, hi, wrap1 hi hl.1]
    · simp [H119L0]
  simp only [H58, H77_eq, H109, H119, e, bsome, find_elim, std_zle, find_le, len_eSpecs, cond_some]
  cases btw 1 l.length 2 <;> simp [any_notB]
theorem H123_eq (a b : Int) (t u : List D) (lim : Int) (x : Tab) (hx : TabOk x) : H123 Ar.std a b t u (eTab x) lim = some (tabOk a b (lim - 1) x) := by
  have e0 : ∀ r : List Int, r.length < Lg → iter (H123L0 Ar.std lim (eInts r)) 0 = some (bif (r.any fun n => !btw 0 n (lim - 1)) then .inr () else .inl ()) := by
    intro r hr
    refine iter_any r _ _ _ (fun i n hn hi => ?_) ?_
    · have : (decide (n < 0) || decide (lim ≤ n)) = !btw 0 n (lim - 1) := by
        rw [Bool.eq_iff_iff]; simp [btw]; omega
      simp [H123L0, gt_enc hn, hi, wrap1 hi hr, this]
    · simp [H123L0]
  have e : iter (H123L1 Ar.std b (eTab x) lim) 0 = some (bif (x.any fun r => !rowOk b (lim - 1) r) then .inr () else .inl ()) := by
    refine iter_any x _ _ _ (fun i r hn hi => ?_) ?_
    · simp only [H123L1, std_zlt, len_eTab, ltC hi, cond_true, gt_eTab hn, bsome, e0 r (hx.2 r (List.mem_of_getElem? hn)), std_zeq, len_enc, std_wrp, std_zadd, wrap1 hi hx.1, rowOk]
      cases decide ((r.length : Int) = b) <;> simp [any_notB]
    · simp [H123L1]
  simp only [H123, e, bsome, std_zeq, len_eTab, tabOk]
  cases decide ((x.length : Int) = a) <;> simp [any_notB]
theorem H114_eq (s : Spec) (h1 : TabOk s.2.2.1) (h2 : TabOk s.2.2.2) : H114 Ar.std s.1 s.2.1 (eTab s.2.2.1) (eTab s.2.2.2) = some (specOk s) := by
  simp only [H114, H123_eq _ _ _ _ _ _ h1, H123_eq _ _ _ _ _ _ h2, bsome, std_zle, cond_some, specOk, btw]
  cases decide (1 ≤ s.1) <;> cases decide (s.1 ≤ 8) <;> cases decide (1 ≤ s.2.1) <;> cases decide (s.2.1 ≤ 4) <;> simp
theorem H60_eq (l : List Spec) (hl : SpecsOk l) : H60 Ar.std (eSpecs l) = some (btw 1 l.length 2 && l.all specOk) := by
  have e : iter (H60L0 Ar.std (eSpecs l)) 0 = some (bif (l.any fun s => !specOk s) then .inr () else .inl ()) := by
    refine iter_any l _ _ _ (fun i s hn hi => ?_) ?_
    · have h := hl.2 s (List.mem_of_getElem? hn)
      simp only [H60L0, H114_eq s h.1 h.2, gt_eSpecs hn, bsome, std_zlt, len_eSpecs, ltC hi, cond_true, std_wrp, std_zadd, wrap1 hi hl.1]
      cases specOk s <;> rfl
    · simp [H60L0]
  simp only [H60, e, bsome, H67_eq, len_eSpecs, any_notB]
  cases l.all specOk <;> simp
end Go.Am
