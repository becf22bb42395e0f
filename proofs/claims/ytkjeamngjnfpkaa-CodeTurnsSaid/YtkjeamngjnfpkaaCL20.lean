/- Own text: CL20. -/
import Derived.Test.YtkjeamngjnfpkaaCB
set_option maxRecDepth 100000
set_option linter.unusedVariables false
set_option linter.unusedSimpArgs false
namespace Go.Am
open Go
theorem C47_eq (a b c : Int) : C47 Ar.std a b c = some (btw a b c) := by simp [C47, btw]
theorem C51_eq (a b c : Int) : C51 Ar.std a b c = some (btw a b c) := by simp [C51, btw]
def isReg (n : Int) : Bool := btw 0 n 3
def isCel (n : Int) : Bool := btw 0 n 2
def okLine (l : Ln4) (many : Int) : Bool :=
 if l.1 = 1 then isReg l.2.1 && (isCel l.2.2.1 && decide (l.2.2.2 = 0))
 else if l.1 = 2 then isCel l.2.1 && (isReg l.2.2.1 && decide (l.2.2.2 = 0))
 else if l.1 = 3 then isCel l.2.1 && (isReg l.2.2.1 && isReg l.2.2.2)
 else if l.1 = 4 then isReg l.2.1 && (btw 0 l.2.2.1 9 && decide (l.2.2.2 = 0))
 else if l.1 = 5 then isReg l.2.1 && (isReg l.2.2.1 && isReg l.2.2.2)
 else if l.1 = 6 then isReg l.2.1 && (btw 0 l.2.2.1 (many - 1) && decide (l.2.2.2 = 0))
 else if l.1 = 7 then isReg l.2.1 && (decide (l.2.2.1 = 0) && decide (l.2.2.2 = 0))
 else false
def endsGive (l : List Ln4) : Bool :=
 match l[l.length - 1]? with
 | some x => decide (x.1 = 7)
 | none => false
def okCall (l : List Ln4) : Bool := btw 1 l.length 8 && (l.all (fun x => okLine x l.length) && endsGive l)
def vCode (c : Code) : Bool := btw 1 c.length 4 && c.all okCall
def okWord (n : Int) (w : List Int) : Bool := decide ((w.length : Int) ≤ 3) && w.all fun i => btw 0 i (n - 1)
def vUse (c : Code) (u : Tab) : Bool := btw 1 u.length 2 && u.all (okWord c.length)
theorem C163_eq (n : Int) : C163 Ar.std n = some (!isReg n) := by simp [C163, C47_eq, isReg]
theorem C138_eq (l : List Int) (hl : l.length < Lg) : C138 Ar.std (eInts l) = some (l.all isReg) := by
 have e : iter (C162L0 Ar.std (eInts l)) 0 = some ((l.findIdx? fun n => !isReg n).elim (.inl ()) (fun i => .inr (i : Int))) := by
  refine iter_find l _ _ _ (fun i n hn hi => ?_) ?_
  ·simp [C162L0, C163_eq, gt_enc hn, hi, wrap1 hi hl]
  ·simp [C162L0]
 simp only [C138, C135, C162, e, bsome, find_elim, std_zle, find_le, any_notB, Bool.not_not]
theorem C79_eq (n : Int) : C79 Ar.std n = some (isCel n) := by simp [C79, C47_eq, isCel]
theorem C138_1 (a : Int) : C138 Ar.std [.int .i64 a] = some (isReg a) := by
 have := C138_eq [a] (by simp [Lg]); simpa [enc, cI] using this
theorem C138_2 (a b : Int) : C138 Ar.std [.int .i64 a, .int .i64 b] = some (isReg a && isReg b) := by
 have := C138_eq [a, b] (by simp [Lg]); simpa [enc, cI] using this
theorem C138_3 (a b c : Int) : C138 Ar.std [.int .i64 a, .int .i64 b, .int .i64 c] = some (isReg a && (isReg b && isReg c)) := by
 have := C138_eq [a, b, c] (by simp [Lg]); simpa [enc, cI] using this
theorem C110_eq (l : Ln4) (m : Int) (h0 : 0 ≤ m) (hm : m < Lg) : C110 Ar.std l.1 l.2.1 l.2.2.1 l.2.2.2 m = some (okLine l m) := by
 obtain ⟨d, a, b, c⟩ := l
 have hw : IntKind.i64.wrap (m - 1) = m - 1 := wrapS (by omega) hm
 simp only [C110, C138_1, C138_2, C138_3, C79_eq, C47_eq, bsome, std_zeq, std_wrp, std_zsub, hw, okLine]
 by_cases h1 : d = 1
 ·subst h1; simp <;> (cases isReg a <;> cases isCel b <;> simp)
 by_cases h2 : d = 2
 ·subst h2; simp <;> (cases isCel a <;> cases isReg b <;> simp)
 by_cases h3 : d = 3
 ·subst h3; simp <;> (cases isCel a <;> simp)
 by_cases h4 : d = 4
 ·subst h4; simp <;> (cases isReg a <;> cases btw 0 b 9 <;> simp)
 by_cases h5 : d = 5
 ·subst h5; simp
 by_cases h6 : d = 6
 ·subst h6; simp <;> (cases isReg a <;> cases btw 0 b (m - 1) <;> simp)
 by_cases h7 : d = 7
 ·subst h7; simp <;> (cases isReg a <;> cases h : decide (b = 0) <;> simp_all)
 ·simp [h1, h2, h3, h4, h5, h6, h7]
theorem C109_eq (l : Ln4) (m : List Ln4) (hm : m.length < Lg) : C109 Ar.std l.1 l.2.1 l.2.2.1 l.2.2.2 (eLns m) = some (!okLine l m.length) := by
 simp only [C109, len_enc, C110_eq l m.length (by omega) (by omega), bsome]
theorem C108_eq (l m : List Ln4) (hl : l.length < Lg) (hm : m.length < Lg) : C108 Ar.std (eLns l) (eLns m) = some (!l.all fun x => okLine x m.length) := by
 have e : iter (C137L0 Ar.std (eLns l) (eLns m)) 0 = some ((l.findIdx? fun x => !okLine x m.length).elim (.inl ()) (fun i => .inr (i : Int))) := by
  refine iter_find l _ _ _ (fun i n hn hi => ?_) ?_
  ·obtain ⟨a, b, c, d⟩ := n
   have := C109_eq (a, b, c, d) m hm
   simp only at this
   simp [C137L0, gt_enc hn, hi, wrap1 hi hl, this]
  ·simp [C137L0]
 simp only [C108, C137, e, bsome, find_elim, std_zle, find_le, any_notB]
theorem C50_eq (l : List Ln4) (hl : l.length < Lg) : C50 Ar.std (eLns l) = some (okCall l) := by
 simp only [C50, C47_eq, len_enc, bsome, C108_eq l l hl hl]
 unfold okCall
 cases h : btw 1 l.length 8 with
 | false => rfl
 | true =>
   have hb := (btw_true _ _ _).1 h
   cases ha : l.all fun x => okLine x l.length with
   | false => rfl
   | true =>
     have hlt : l.length - 1 < l.length := by omega
     have hg : ∃ a b c d, l[l.length - 1]? = some (a, b, c, d) := ⟨_, _, _, _, List.getElem?_eq_getElem hlt⟩
     obtain ⟨a, b, c, d, hg⟩ := hg
     have hi : IntKind.i64.wrap ((l.length : Int) - 1) = ((l.length - 1 : Nat) : Int) := by rw [wrapS (by omega) (by omega)]; omega
     simp only [std_wrp, std_zsub, hi, gt_enc hg, bsome, cond_true, Bool.not_true, cond_false, endsGive, hg, std_zeq, Bool.true_and]
theorem C15_eq (c : Code) (hc : CodeOk c) : C15 Ar.std (eCode c) = some (vCode c) := by
 have e : iter (C107L0 Ar.std (eCode c)) 0 = some ((c.findIdx? fun l => !okCall l).elim (.inl ()) (fun i => .inr (i : Int))) := by
  refine iter_find c _ _ _ (fun i n hn hi => ?_) ?_
  ·simp [C107L0, C49, C50_eq n (hc.2 n (List.mem_of_getElem? hn)), gt_eCode hn, hi, wrap1 hi hc.1]
  ·simp [C107L0]
 simp only [C15, C47_eq, C48, C107, e, bsome, find_elim, std_zle, find_le, len_eCode, any_notB, vCode]
 cases btw 1 c.length 4 <;> simp
end Go.Am

set_option maxRecDepth 100000
set_option linter.unusedVariables false
set_option linter.unusedSimpArgs false
namespace Go.Am
open Go
theorem wrapL {n : Nat} (h : n < Lg) : IntKind.i64.wrap ((n : Int) - 1) = (n : Int) - 1 := by
 have h' : n < 9223372036854775808 := h
 exact wrapS (by omega) (by omega)
theorem C136_eq (n : Int) (c : Code) (hc : CodeOk c) : C136 Ar.std n (eCode c) = some (!btw 0 n (c.length - 1)) := by
 simp only [C136, C47_eq, len_eCode, std_wrp, std_zsub, wrapL hc.1, bsome]
theorem C103_eq (c : Code) (hc : CodeOk c) (w : List Int) (hw : w.length < Lg) : C103 Ar.std (eCode c) (eInts w) = some (okWord c.length w) := by
 have e : iter (C162aL0 Ar.std (eInts w) (eCode c)) 0 = some ((w.findIdx? fun n => !btw 0 n (c.length - 1)).elim (.inl ()) (fun i => .inr (i : Int))) := by
  refine iter_find w _ _ _ (fun i n hn hi => ?_) ?_
  ·simp [C162aL0, C136_eq n c hc, gt_enc hn, hi, wrap1 hi hw]
  ·simp [C162aL0]
 simp only [C103, C135a, C162a, e, bsome, find_elim, std_zle, find_le, any_notB, Bool.not_not, len_enc, okWord, cond_some]
 cases decide ((w.length : Int) ≤ 3) <;> rfl
theorem C42_eq (c : Code) (hc : CodeOk c) (u : Tab) (hu : TabOk u) : C42 Ar.std (eCode c) (eTab u) = some (vUse c u) := by
 have e : iter (C134L0 Ar.std (eTab u) (eCode c)) 0 = some ((u.findIdx? fun w => !okWord c.length w).elim (.inl ()) (fun i => .inr (i : Int))) := by
  refine iter_find u _ _ _ (fun i n hn hi => ?_) ?_
  ·simp [C134L0, C102, C103_eq c hc n (hu.2 n (List.mem_of_getElem? hn)), gt_eTab hn, hi, wrap1 hi hu.1]
  ·simp [C134L0]
 simp only [C42, C101, C134, e, bsome, find_elim, std_zle, find_le, C47_eq, len_eTab, any_notB, Bool.not_not, cond_some, vUse]
 cases btw 1 u.length 2 <;> rfl
theorem C111_eq (n : Int) : C111 Ar.std n = some (isReg n) := by simp [C111, C51_eq, isReg]
theorem C82_eq (n : Int) : C82 Ar.std n = some (isCel n) := by simp [C82, C51_eq, isCel]
theorem C112_eq (n : Int) : C112 Ar.std n = some (btw 0 n 9) := by simp [C112, C51_eq]
theorem C52_eq (l : Ln4) (m : Int) (h0 : 0 ≤ m) (hm : m < Lg) : C52 Ar.std l.1 l.2.1 l.2.2.1 l.2.2.2 m = some (okLine l m) := by
 obtain ⟨d, a, b, c⟩ := l
 have hw : IntKind.i64.wrap (m - 1) = m - 1 := wrapS (by omega) hm
 simp only [C52, C111_eq, C82_eq, C112_eq, C51_eq, bsome, std_zeq, std_wrp, std_zsub, hw, okLine]
 by_cases h1 : d = 1
 ·subst h1; simp <;> (cases isReg a <;> cases isCel b <;> simp)
 by_cases h2 : d = 2
 ·subst h2; simp <;> (cases isCel a <;> cases isReg b <;> simp)
 by_cases h3 : d = 3
 ·subst h3; simp <;> (cases isCel a <;> cases isReg b <;> simp)
 by_cases h4 : d = 4
 ·subst h4; simp <;> (cases isReg a <;> cases btw 0 b 9 <;> simp)
 by_cases h5 : d = 5
 ·subst h5; simp <;> (cases isReg a <;> cases isReg b <;> simp)
 by_cases h6 : d = 6
 ·subst h6; simp <;> (cases isReg a <;> cases btw 0 b (m - 1) <;> simp)
 by_cases h7 : d = 7
 ·subst h7; simp <;> (cases isReg a <;> cases h : decide (b = 0) <;> simp_all)
 ·simp [h1, h2, h3, h4, h5, h6, h7]
theorem C16L0_eq (l : List Ln4) (hl : l.length < Lg) : iter (C16L0 Ar.std (eLns l)) 0 = some (bif (l.any fun x => !okLine x l.length) then .inr () else .inl ()) := by
 refine iter_any l _ _ _ (fun i n hn hi => ?_) ?_
 ·have := C52_eq n l.length (by omega) (by omega)
  obtain ⟨a, b, c, d⟩ := n
  simp only at this
  simp [C16L0, gt_enc hn, hi, wrap1 hi hl, this]
 ·simp [C16L0]
theorem C16_eq (c : Code) (hc : CodeOk c) : C16 Ar.std (eCode c) = some (vCode c) := by
 have e : iter (C16L1 Ar.std (eCode c)) 0 = some (bif (c.any fun l => !okCall l) then .inr () else .inl ()) := by
  refine iter_any c _ _ _ (fun i l hn hi => ?_) ?_
  ·have hl := hc.2 l (List.mem_of_getElem? hn)
   simp only [C16L1, std_zlt, len_eCode, ltC hi, cond_true, gt_eCode hn, bsome, C51_eq, len_enc, C16L0_eq l hl, std_wrp, std_zadd, wrap1 hi hc.1, okCall]
   cases h : btw 1 l.length 8 with
   | false => rfl
   | true =>
     have hb := (btw_true _ _ _).1 h
     rw [any_notB]
     cases ha : l.all fun x => okLine x l.length with
     | false => rfl
     | true =>
       have hlt : l.length - 1 < l.length := by omega
       have hg : ∃ a b c d, l[l.length - 1]? = some (a, b, c, d) := ⟨_, _, _, _, List.getElem?_eq_getElem hlt⟩
       obtain ⟨a, b, cc, d, hg⟩ := hg
       have hi' : IntKind.i64.wrap ((l.length : Int) - 1) = ((l.length - 1 : Nat) : Int) := by rw [wrapL hl]; omega
       simp only [std_zsub, hi', gt_enc hg, bsome, cond_true, Bool.not_true, cond_false, Sum.elim_inl, endsGive, hg, std_zeq, Bool.true_and]
       cases decide (a = 7) <;> rfl
  ·simp [C16L1]
 simp only [C16, C51_eq, e, bsome, len_eCode, any_notB, vCode]
 cases btw 1 c.length 4 <;> cases c.all okCall <;> rfl
theorem C43_eq (c : Code) (hc : CodeOk c) (u : Tab) (hu : TabOk u) : C43 Ar.std (eCode c) (eTab u) = some (vUse c u) := by
 have e0 : ∀ w : List Int, w.length < Lg → iter (C43L0 Ar.std (eCode c) (eInts w)) 0 = some (bif (w.any fun i => !btw 0 i (c.length - 1)) then .inr () else .inl ()) := by
  intro w hw
  refine iter_any w _ _ _ (fun i n hn hi => ?_) ?_
  ·simp only [C43L0, std_zlt, len_enc, ltC hi, cond_true, gt_enc hn, bsome, C51_eq, len_eCode, std_wrp, std_zsub, std_zadd, wrapL hc.1, wrap1 hi hw]
   cases btw 0 n (c.length - 1) <;> rfl
  ·simp [C43L0]
 have e : iter (C43L1 Ar.std (eCode c) (eTab u)) 0 = some (bif (u.any fun w => !okWord c.length w) then .inr () else .inl ()) := by
  refine iter_any u _ _ _ (fun i w hn hi => ?_) ?_
  ·have hw := hu.2 w (List.mem_of_getElem? hn)
   simp only [C43L1, std_zlt, len_eTab, ltC hi, cond_true, gt_eTab hn, bsome, len_enc, e0 w hw, std_wrp, std_zadd, wrap1 hi hu.1, okWord, any_notB]
   by_cases h3 : (w.length : Int) ≤ 3
   ·have h4 : ¬ (3 : Int) < w.length := by omega
    simp only [h3, h4, decide_true, decide_false, cond_false, Bool.true_and]
    cases w.all fun i => btw 0 i (c.length - 1) <;> rfl
   ·have h4 : (3 : Int) < w.length := by omega
    simp only [h3, h4, decide_true, decide_false, cond_true, Bool.false_and]; rfl
  ·simp [C43L1]
 simp only [C43, C51_eq, e, bsome, len_eTab, any_notB, vUse]
 cases btw 1 u.length 2 <;> cases u.all (okWord c.length) <;> rfl
def codeE (c : Code) (u : Tab) : Int := bif vCode c then bif vUse c u then 0 else 81 else 80
theorem C89_eq (c : Code) (hc : CodeOk c) (u : Tab) (hu : TabOk u) : C89 Ar.std (eCode c) (eTab u) = some (codeE c u) := by
 simp only [C89, C15_eq c hc, C42_eq c hc u hu, bsome, codeE]
 cases vCode c <;> cases vUse c u <;> rfl
end Go.Am

set_option maxRecDepth 100000
set_option maxHeartbeats 1000000
set_option linter.unusedVariables false
set_option linter.unusedSimpArgs false
namespace Go.Am
open Go
theorem bt {α β : Type} {o : Option α} {f : α → Option β} {v : α} {r : Option β} (h : o = some v) (h2 : f v = r) : o.bind f = r := by rw [h]; exact h2
theorem cnT {α : Type} {b : Bool} {x y r : α} (h : b = true) (h2 : x = r) : (bif b then x else y) = r := by rw [h]; exact h2
theorem cnF {α : Type} {b : Bool} {x y r : α} (h : b = false) (h2 : y = r) : (bif b then x else y) = r := by rw [h]; exact h2
def rg4 (a b c d i : Int) : Int := if i = 0 then a else if i = 1 then b else if i = 2 then c else d
def rg3 (a b c i : Int) : Int := if i = 0 then a else if i = 1 then b else c
def pk (z i v r : Int) : Int := bif decide (z = i) then v else r
theorem isReg_iff {i : Int} : isReg i = true ↔ i = 0 ∨ i = 1 ∨ i = 2 ∨ i = 3 := by simp [isReg]; omega
theorem isCel_iff {i : Int} : isCel i = true ↔ i = 0 ∨ i = 1 ∨ i = 2 := by simp [isCel]; omega
theorem gc4 {a b c d i : Int} (h : isReg i = true) : gc Ar.std (cI .i64) [.int .i64 a, .int .i64 b, .int .i64 c, .int .i64 d] (Ar.std.nat i) = some (rg4 a b c d i) := by
 rcases isReg_iff.1 h with rfl | rfl | rfl | rfl <;> simp [gc, rg4]
theorem gc3 {a b c i : Int} (h : isCel i = true) : gc Ar.std (cI .i64) [.int .i64 a, .int .i64 b, .int .i64 c] (Ar.std.nat i) = some (rg3 a b c i) := by
 rcases isCel_iff.1 h with rfl | rfl | rfl <;> simp [gc, rg3]
theorem ckr0 {i : Int} (h : isReg i = true) : ck (Ar.std.zle 0 i) = some () := ck_of (by rcases isReg_iff.1 h with rfl | rfl | rfl | rfl <;> rfl)
theorem ckr1 {i : Int} (h : isReg i = true) : ck (Ar.std.zlt i (Int.ofNat 4)) = some () := ck_of (by rcases isReg_iff.1 h with rfl | rfl | rfl | rfl <;> rfl)
theorem ckc0 {i : Int} (h : isCel i = true) : ck (Ar.std.zle 0 i) = some () := ck_of (by rcases isCel_iff.1 h with rfl | rfl | rfl <;> rfl)
theorem ckc1 {i : Int} (h : isCel i = true) : ck (Ar.std.zlt i (Int.ofNat 3)) = some () := ck_of (by rcases isCel_iff.1 h with rfl | rfl | rfl <;> rfl)
abbrev Xs := Int × Int × Int × Int × Int × Int × Int × Int × Int × List Call
def xLn (l : Ln4) (st cl ln r0 r1 r2 r3 at_ c0 c1 c2 : Int) (h : List Call) : Xs :=
 let A := l.2.1; let B := l.2.2.1; let C := l.2.2.2
 if l.1 = 1 then let v := rg3 c0 c1 c2 B; (cl, ln + 1, pk A 0 v r0, pk A 1 v r1, pk A 2 v r2, pk A 3 v r3, c0, c1, c2, h)
 else if l.1 = 2 then let v := rg4 r0 r1 r2 r3 B; (cl, ln + 1, r0, r1, r2, r3, pk A 0 v c0, pk A 1 v c1, pk A 2 v c2, h)
 else if l.1 = 3 then
  if rg3 c0 c1 c2 A = rg4 r0 r1 r2 r3 B then let v := rg4 r0 r1 r2 r3 C; (cl, ln + 1, r0, r1, r2, 1, pk A 0 v c0, pk A 1 v c1, pk A 2 v c2, h)
  else (cl, ln + 1, r0, r1, r2, 0, c0, c1, c2, h)
 else if l.1 = 4 then (cl, ln + 1, pk A 0 B r0, pk A 1 B r1, pk A 2 B r2, pk A 3 B r3, c0, c1, c2, h)
 else if l.1 = 5 then let v := (rg4 r0 r1 r2 r3 B + rg4 r0 r1 r2 r3 C).tmod 10; (cl, ln + 1, pk A 0 v r0, pk A 1 v r1, pk A 2 v r2, pk A 3 v r3, c0, c1, c2, h)
 else if l.1 = 6 then (cl, (if rg4 r0 r1 r2 r3 A = 0 then B else ln + 1), r0, r1, r2, r3, c0, c1, c2, h)
 else
  (cl + 1, 0, r0, r1, r2, r3, c0, c1, c2, match h[at_.toNat]? with
   | some x => h.set at_.toNat (x.1, x.2.1, x.2.2.1, rg4 r0 r1 r2 r3 A, x.2.2.2.2.1, 2 * st)
   | none => h)
def dg (n : Int) : Prop := 0 ≤ n ∧ n ≤ 9
theorem rg4_dg {a b c d i : Int} (ha : dg a) (hb : dg b) (hc : dg c) (hd : dg d) : dg (rg4 a b c d i) := by
 unfold rg4; split; exact ha; split; exact hb; split; exact hc; exact hd
theorem rg3_dg {a b c i : Int} (ha : dg a) (hb : dg b) (hc : dg c) : dg (rg3 a b c i) := by
 unfold rg3; split; exact ha; split; exact hb; exact hc
theorem w64 {n : Int} (h0 : -1000000000 ≤ n) (h1 : n ≤ 1000000000) : IntKind.i64.wrap n = n := i64w _ (by omega) (by omega)
theorem okLine_do {l : Ln4} {m : Int} (h : okLine l m = true) :
  (l.1 = 1 ∧ isReg l.2.1 = true ∧ isCel l.2.2.1 = true) ∨ (l.1 = 2 ∧ isCel l.2.1 = true ∧ isReg l.2.2.1 = true) ∨ (l.1 = 3 ∧ isCel l.2.1 = true ∧ isReg l.2.2.1 = true ∧ isReg l.2.2.2 = true) ∨
  (l.1 = 4 ∧ isReg l.2.1 = true ∧ dg l.2.2.1) ∨ (l.1 = 5 ∧ isReg l.2.1 = true ∧ isReg l.2.2.1 = true ∧ isReg l.2.2.2 = true) ∨ (l.1 = 6 ∧ isReg l.2.1 = true ∧ 0 ≤ l.2.2.1 ∧ l.2.2.1 < m) ∨ (l.1 = 7 ∧ isReg l.2.1 = true) := by
 unfold okLine at h
 split at h
 ·rename_i h1; simp only [Bool.and_eq_true] at h; exact .inl ⟨h1, h.1, h.2.1⟩
 split at h
 ·rename_i h1; simp only [Bool.and_eq_true] at h; exact .inr (.inl ⟨h1, h.1, h.2.1⟩)
 split at h
 ·rename_i h1; simp only [Bool.and_eq_true] at h; exact .inr (.inr (.inl ⟨h1, h.1, h.2.1, h.2.2⟩))
 split at h
 ·rename_i h1; simp only [Bool.and_eq_true, btw_true] at h; exact .inr (.inr (.inr (.inl ⟨h1, h.1, h.2.1⟩)))
 split at h
 ·rename_i h1; simp only [Bool.and_eq_true] at h; exact .inr (.inr (.inr (.inr (.inl ⟨h1, h.1, h.2.1, h.2.2⟩))))
 split at h
 ·rename_i h1; simp only [Bool.and_eq_true, btw_true] at h; exact .inr (.inr (.inr (.inr (.inr (.inl ⟨h1, h.1, h.2.1.1, by omega⟩)))))
 split at h
 ·rename_i h1; simp only [Bool.and_eq_true] at h; exact .inr (.inr (.inr (.inr (.inr (.inr ⟨h1, h.1⟩)))))
 ·cases h
theorem C118_eq (d a b c : Int) (x5 x6 : List D) (x7 x8 r0 r1 r2 r3 x13 x14 x15 x16 x17 x18 x19 x20 c0 c1 c2 x24 : Int) (x25 x26 : List D) (ha : isCel a = true) (hb : isReg b = true) (hc : isReg c = true) :
  C118 Ar.std d a b c x5 x6 x7 x8 r0 r1 r2 r3 x13 x14 x15 x16 x17 x18 x19 x20 c0 c1 c2 x24 x25 x26 =
   some (if rg3 c0 c1 c2 a = rg4 r0 r1 r2 r3 b then (1, pk a 0 (rg4 r0 r1 r2 r3 c) c0, pk a 1 (rg4 r0 r1 r2 r3 c) c1, pk a 2 (rg4 r0 r1 r2 r3 c) c2) else (0, c0, c1, c2)) := by
 unfold C118
 refine bt (ckc0 ha) (bt (ckc1 ha) (bt (gc3 ha) (bt (ckr0 hb) (bt (ckr1 hb) (bt (gc4 hb) ?_)))))
 by_cases h : rg3 c0 c1 c2 a = rg4 r0 r1 r2 r3 b
 ·rw [if_pos h]
  exact cnT (decide_eq_true h) (bt (ckr0 hc) (bt (ckr1 hc) (bt (gc4 hc) (bt (ckc0 ha) (bt (ckc1 ha) rfl)))))
 ·rw [if_neg h]
  exact cnF (decide_eq_false h) rfl
theorem C118a_eq (d a b c : Int) (x5 x6 : List D) (x7 x8 x9 x10 x11 x12 x13 x14 x15 r0 r1 r2 r3 x20 c0 c1 c2 x24 : Int) (x25 x26 : List D) (ha : isCel a = true) (hb : isReg b = true) (hc : isReg c = true) :
  C118a Ar.std d a b c x5 x6 x7 x8 x9 x10 x11 x12 x13 x14 x15 r0 r1 r2 r3 x20 c0 c1 c2 x24 x25 x26 =
   some (if rg3 c0 c1 c2 a = rg4 r0 r1 r2 r3 b then (1, pk a 0 (rg4 r0 r1 r2 r3 c) c0, pk a 1 (rg4 r0 r1 r2 r3 c) c1, pk a 2 (rg4 r0 r1 r2 r3 c) c2) else (0, c0, c1, c2)) := by
 unfold C118a
 refine bt (ckc0 ha) (bt (ckc1 ha) (bt (gc3 ha) (bt (ckr0 hb) (bt (ckr1 hb) (bt (gc4 hb) ?_)))))
 by_cases h : rg3 c0 c1 c2 a = rg4 r0 r1 r2 r3 b
 ·rw [if_pos h]
  exact cnT (decide_eq_true h) (bt (ckr0 hc) (bt (ckr1 hc) (bt (gc4 hc) (bt (ckc0 ha) (bt (ckc1 ha) rfl)))))
 ·rw [if_neg h]
  exact cnF (decide_eq_false h) rfl
def open_ (t : Int) (h : List Call) : Bool := h.any fun c => decide (c.1 = t) && decide (c.2.2.2.2.2 = 0)
theorem C116_eq (t : Int) (x2 x3 : List D) (x4 x5 x6 x7 x8 x9 x10 x11 x12 x13 x14 x15 x16 x17 x18 x19 x20 x21 : Int) (h : List Call) (hl : h.length < Lg) (x23 : List D) :
  C116 Ar.std t x2 x3 x4 x5 x6 x7 x8 x9 x10 x11 x12 x13 x14 x15 x16 x17 x18 x19 x20 x21 (eCalls h) x23 = some (open_ t h) := by
 have e : iter (C166L0 Ar.std t (eCalls h)) 0 = some ((h.findIdx? fun c => decide (c.1 = t) && decide (c.2.2.2.2.2 = 0)).elim (.inl ()) (fun i => .inr (i : Int))) := by
  refine iter_find h _ _ _ (fun i n hn hi => ?_) ?_
  ·obtain ⟨a, b, c, d, e, f⟩ := n
   have h1 : gc Ar.std cCall (eCalls h) (Ar.std.nat (i : Int)) = some (a, b, c, d, e, f) := gc_enc (by simpa using hn)
   have h0 : ck (Ar.std.zle 0 (i : Int)) = some () := ck_of (by simp)
   have h2 : ck (Ar.std.zlt (i : Int) (Ar.std.len (eCalls h))) = some () := ck_of (by simp; omega)
   unfold C166L0
   refine cnT (by simp; omega) (bt h0 (bt h2 (bt h1 ?_)))
   have h3 : C143 Ar.std a b c d e f t = some (decide (a = t) && decide (f = 0)) := by
    simp only [C143, std_zeq]; cases decide (a = t) <;> simp
   refine bt h3 ?_
   simp only [std_wrp, std_zadd, wrap1 hi hl]
   cases decide (a = t) && decide (f = 0) <;> rfl
  ·simp [C166L0]
 simp only [C116, C142, C166, e, bsome, find_elim, std_zle, find_le, open_]
end Go.Am

set_option maxRecDepth 100000
set_option maxHeartbeats 2000000
set_option linter.unusedVariables false
set_option linter.unusedSimpArgs false
namespace Go.Am
open Go
def beg (inn : Bool) (t op st r0 r1 r2 r3 at_ : Int) (h : List Call) (mk : List Int) : Int × Int × Int × Int × Int × List Call × List Int :=
 bif inn then (r0, r1, r2, r3, at_, h, mk) else (0, 1, 0, 0, h.length, h ++ [(t, 0, op, 0, 2 * st + 1, 0)], mk ++ [0])
def hasMk (mks : List Int) (op ln : Int) : Bool := decide (0 < mks.length) && decide (mks[op.toNat]? = some ln)
def mkd (mks : List Int) (op ln at_ st : Int) (mk : List Int) : List Int := bif hasMk mks op ln then mk.set at_.toNat st else mk
theorem beg_open {inn : Bool} {ln : Int} (hln : inn = false → ln = 0) : (bif decide (ln = 0) then (some inn).bind (fun r => some (!r)) else some false : Option Bool) = some (!inn) := by
 cases inn with
 | false => rw [hln rfl]; rfl
 | true => cases decide (ln = 0) <;> rfl
theorem beg_eq (inn : Bool) (t op st r0 r1 r2 r3 at_ : Int) (h : List Call) (mk : List Int) (hh : h.length < 1000) (hm : mk.length < 1000) (hst : 0 ≤ st ∧ st ≤ 1000) :
  (bif !inn then
   (C117 Ar.std).bind fun () =>
   (ap Ar.std (eCalls h) [.agg [.int .i64 t, .int .i64 0, .int .i64 op, .int .i64 0, .int .i64 (Ar.std.wrp .i64 (Ar.std.zadd (Ar.std.wrp .i64 (Ar.std.zmul 2 st)) 1)), .int .i64 0]]).bind fun l =>
   (ap Ar.std (eInts mk) [.int .i64 0]).bind fun l' =>
   some (0, 1, 0, 0, Ar.std.len (eCalls h), l, l')
   else some (r0, r1, r2, r3, at_, eCalls h, eInts mk) : Option (Int × Int × Int × Int × Int × List D × List D)) =
  some ((beg inn t op st r0 r1 r2 r3 at_ h mk).1, (beg inn t op st r0 r1 r2 r3 at_ h mk).2.1, (beg inn t op st r0 r1 r2 r3 at_ h mk).2.2.1, (beg inn t op st r0 r1 r2 r3 at_ h mk).2.2.2.1, (beg inn t op st r0 r1 r2 r3 at_ h mk).2.2.2.2.1,
   eCalls (beg inn t op st r0 r1 r2 r3 at_ h mk).2.2.2.2.2.1, eInts (beg inn t op st r0 r1 r2 r3 at_ h mk).2.2.2.2.2.2) := by
 cases inn with
 | true => rfl
 | false =>
   have h1 : Ar.std.wrp .i64 (Ar.std.zadd (Ar.std.wrp .i64 (Ar.std.zmul 2 st)) 1) = 2 * st + 1 := by
    simp only [std_wrp, std_zadd, std_zmul]; rw [w64 (n := 2 * st) (by omega) (by omega), w64 (by omega) (by omega)]
   rw [h1]
   refine cnT rfl (bt (v := ()) rfl (bt (ap_enc1 (c := cCall) (a := (t, 0, op, 0, 2 * st + 1, 0)) rfl (by omega)) (bt (ap_enc1 (c := cI .i64) (a := 0) rfl (by omega)) ?_)))
   simp only [len_enc]; rfl
theorem mkd_eq (mks : List Int) (op ln at_ st : Int) (mk : List Int) (ha : 0 ≤ at_) (ha2 : at_ < mk.length) (hst : 0 ≤ st ∧ st ≤ 1000) :
  (bif hasMk mks op ln then
   (ck (Ar.std.zle 0 at_)).bind fun _ =>
   (ck (Ar.std.zlt at_ (Ar.std.len (eInts mk)))).bind fun _ =>
   (gc Ar.std (cI .i64) (eInts mk) (Ar.std.nat at_)).bind fun _ =>
   some (Ar.std.lset (eInts mk) (Ar.std.nat at_) (.int .i64 (Ar.std.wrp .i64 (Ar.std.zadd st 1))))
   else some (eInts mk) : Option (List D)) = some (eInts (mkd mks op ln at_ (st + 1) mk)) := by
 unfold mkd
 cases hasMk mks op ln with
 | false => rfl
 | true =>
   have h1 : Ar.std.wrp .i64 (Ar.std.zadd st 1) = st + 1 := by simp only [std_wrp, std_zadd]; exact w64 (by omega) (by omega)
   have hg : mk[at_.toNat]? = some mk[at_.toNat] := List.getElem?_eq_getElem (by omega)
   rw [h1]
   refine cnT rfl (bt (ck_of (by simpa using ha)) (bt (ck_of (by simpa using ha2)) (bt (gc_enc (c := cI .i64) (i := at_.toNat) hg) ?_)))
   exact congrArg some (enc_set (c := cI .i64) mk at_.toNat (st + 1))
theorem hasMk_eq (mks : List Int) (op ln : Int) (hop : 0 ≤ op) (hm : mks = [] ∨ op.toNat < mks.length) :
  (bif Ar.std.zlt 0 (Ar.std.len (eInts mks)) then (gt Ar.std (cI .i64) (eInts mks) op).bind (fun a => some (Ar.std.zeq a ln)) else some false : Option Bool) = some (hasMk mks op ln) := by
 rcases hm with rfl | hm
 ·rfl
 ·have hg : mks[op.toNat]? = some mks[op.toNat] := List.getElem?_eq_getElem hm
  have h0 : 0 < mks.length := by omega
  refine cnT (by simp; omega) (bt (gt_encI hop hg) ?_)
  simp [hasMk, h0, hg]
theorem C71_0 (c : Code) (u : Tab) (mks : List Int) (cl ln r0 r1 r2 r3 at_ y1 y2 y3 y4 y5 y6 y7 c0 c1 c2 st : Int) (h : List Call) (mk : List Int) (inn : Bool) (op : Int) (w : List Int) (ls : List Ln4) (l : Ln4)
  (hu : u[0]? = some w) (hcl : 0 ≤ cl ∧ cl ≤ 1000) (hw : w[cl.toNat]? = some op) (hop : 0 ≤ op) (hc : c[op.toNat]? = some ls) (hln : 0 ≤ ln ∧ ln ≤ 1000) (hl : ls[ln.toNat]? = some l) {m : Int} (hok : okLine l m = true)
  (hopen : open_ 0 h = inn) (hln0 : inn = false → ln = 0) (hh : h.length < 1000) (hm : mk.length = h.length) (hat : inn = true → 0 ≤ at_ ∧ at_ < h.length) (hst : 0 ≤ st ∧ st ≤ 1000) (hmk : mks = [] ∨ op.toNat < mks.length)
  (d0 : dg r0) (d1 : dg r1) (d2 : dg r2) (d3 : dg r3) :
  C71 Ar.std 0 (eInts mks) (eCode c) (eTab u) cl ln r0 r1 r2 r3 at_ y1 y2 y3 y4 y5 y6 y7 c0 c1 c2 st (eCalls h) (eInts mk) = some (eCode c, eTab u, (xLn l (st + 1) cl ln (beg inn 0 op st r0 r1 r2 r3 at_ h mk).1 (beg inn 0 op st r0 r1 r2 r3 at_ h mk).2.1 (beg inn 0 op st r0 r1 r2 r3 at_ h mk).2.2.1 (beg inn 0 op st r0 r1 r2 r3 at_ h mk).2.2.2.1 (beg inn 0 op st r0 r1 r2 r3 at_ h mk).2.2.2.2.1 c0 c1 c2 (beg inn 0 op st r0 r1 r2 r3 at_ h mk).2.2.2.2.2.1).1, (xLn l (st + 1) cl ln (beg inn 0 op st r0 r1 r2 r3 at_ h mk).1 (beg inn 0 op st r0 r1 r2 r3 at_ h mk).2.1 (beg inn 0 op st r0 r1 r2 r3 at_ h mk).2.2.1 (beg inn 0 op st r0 r1 r2 r3 at_ h mk).2.2.2.1 (beg inn 0 op st r0 r1 r2 r3 at_ h mk).2.2.2.2.1 c0 c1 c2 (beg inn 0 op st r0 r1 r2 r3 at_ h mk).2.2.2.2.2.1).2.1, (xLn l (st + 1) cl ln (beg inn 0 op st r0 r1 r2 r3 at_ h mk).1 (beg inn 0 op st r0 r1 r2 r3 at_ h mk).2.1 (beg inn 0 op st r0 r1 r2 r3 at_ h mk).2.2.1 (beg inn 0 op st r0 r1 r2 r3 at_ h mk).2.2.2.1 (beg inn 0 op st r0 r1 r2 r3 at_ h mk).2.2.2.2.1 c0 c1 c2 (beg inn 0 op st r0 r1 r2 r3 at_ h mk).2.2.2.2.2.1).2.2.1, (xLn l (st + 1) cl ln (beg inn 0 op st r0 r1 r2 r3 at_ h mk).1 (beg inn 0 op st r0 r1 r2 r3 at_ h mk).2.1 (beg inn 0 op st r0 r1 r2 r3 at_ h mk).2.2.1 (beg inn 0 op st r0 r1 r2 r3 at_ h mk).2.2.2.1 (beg inn 0 op st r0 r1 r2 r3 at_ h mk).2.2.2.2.1 c0 c1 c2 (beg inn 0 op st r0 r1 r2 r3 at_ h mk).2.2.2.2.2.1).2.2.2.1, (xLn l (st + 1) cl ln (beg inn 0 op st r0 r1 r2 r3 at_ h mk).1 (beg inn 0 op st r0 r1 r2 r3 at_ h mk).2.1 (beg inn 0 op st r0 r1 r2 r3 at_ h mk).2.2.1 (beg inn 0 op st r0 r1 r2 r3 at_ h mk).2.2.2.1 (beg inn 0 op st r0 r1 r2 r3 at_ h mk).2.2.2.2.1 c0 c1 c2 (beg inn 0 op st r0 r1 r2 r3 at_ h mk).2.2.2.2.2.1).2.2.2.2.1, (xLn l (st + 1) cl ln (beg inn 0 op st r0 r1 r2 r3 at_ h mk).1 (beg inn 0 op st r0 r1 r2 r3 at_ h mk).2.1 (beg inn 0 op st r0 r1 r2 r3 at_ h mk).2.2.1 (beg inn 0 op st r0 r1 r2 r3 at_ h mk).2.2.2.1 (beg inn 0 op st r0 r1 r2 r3 at_ h mk).2.2.2.2.1 c0 c1 c2 (beg inn 0 op st r0 r1 r2 r3 at_ h mk).2.2.2.2.2.1).2.2.2.2.2.1, (beg inn 0 op st r0 r1 r2 r3 at_ h mk).2.2.2.2.1, y1, y2, y3, y4, y5, y6, y7, (xLn l (st + 1) cl ln (beg inn 0 op st r0 r1 r2 r3 at_ h mk).1 (beg inn 0 op st r0 r1 r2 r3 at_ h mk).2.1 (beg inn 0 op st r0 r1 r2 r3 at_ h mk).2.2.1 (beg inn 0 op st r0 r1 r2 r3 at_ h mk).2.2.2.1 (beg inn 0 op st r0 r1 r2 r3 at_ h mk).2.2.2.2.1 c0 c1 c2 (beg inn 0 op st r0 r1 r2 r3 at_ h mk).2.2.2.2.2.1).2.2.2.2.2.2.1, (xLn l (st + 1) cl ln (beg inn 0 op st r0 r1 r2 r3 at_ h mk).1 (beg inn 0 op st r0 r1 r2 r3 at_ h mk).2.1 (beg inn 0 op st r0 r1 r2 r3 at_ h mk).2.2.1 (beg inn 0 op st r0 r1 r2 r3 at_ h mk).2.2.2.1 (beg inn 0 op st r0 r1 r2 r3 at_ h mk).2.2.2.2.1 c0 c1 c2 (beg inn 0 op st r0 r1 r2 r3 at_ h mk).2.2.2.2.2.1).2.2.2.2.2.2.2.1, (xLn l (st + 1) cl ln (beg inn 0 op st r0 r1 r2 r3 at_ h mk).1 (beg inn 0 op st r0 r1 r2 r3 at_ h mk).2.1 (beg inn 0 op st r0 r1 r2 r3 at_ h mk).2.2.1 (beg inn 0 op st r0 r1 r2 r3 at_ h mk).2.2.2.1 (beg inn 0 op st r0 r1 r2 r3 at_ h mk).2.2.2.2.1 c0 c1 c2 (beg inn 0 op st r0 r1 r2 r3 at_ h mk).2.2.2.2.2.1).2.2.2.2.2.2.2.2.1, st + 1, eCalls (xLn l (st + 1) cl ln (beg inn 0 op st r0 r1 r2 r3 at_ h mk).1 (beg inn 0 op st r0 r1 r2 r3 at_ h mk).2.1 (beg inn 0 op st r0 r1 r2 r3 at_ h mk).2.2.1 (beg inn 0 op st r0 r1 r2 r3 at_ h mk).2.2.2.1 (beg inn 0 op st r0 r1 r2 r3 at_ h mk).2.2.2.2.1 c0 c1 c2 (beg inn 0 op st r0 r1 r2 r3 at_ h mk).2.2.2.2.2.1).2.2.2.2.2.2.2.2.2, eInts (mkd mks op ln (beg inn 0 op st r0 r1 r2 r3 at_ h mk).2.2.2.2.1 (st + 1) (beg inn 0 op st r0 r1 r2 r3 at_ h mk).2.2.2.2.2.2)) := by
 have hLg : h.length < Lg := by show h.length < 9223372036854775808; omega
 have hwl : Ar.std.wrp .i64 (Ar.std.zadd ln 1) = ln + 1 := by simp only [std_wrp, std_zadd]; exact w64 (by omega) (by omega)
 have hwc : Ar.std.wrp .i64 (Ar.std.zadd cl 1) = cl + 1 := by simp only [std_wrp, std_zadd]; exact w64 (by omega) (by omega)
 have hws : Ar.std.wrp .i64 (Ar.std.zadd st 1) = st + 1 := by simp only [std_wrp, std_zadd]; exact w64 (by omega) (by omega)
 have hw2 : Ar.std.wrp .i64 (Ar.std.zmul 2 (st + 1)) = 2 * (st + 1) := by simp only [std_wrp, std_zmul]; exact w64 (by omega) (by omega)
 have hB : 0 ≤ (beg inn 0 op st r0 r1 r2 r3 at_ h mk).2.2.2.2.1 ∧ (beg inn 0 op st r0 r1 r2 r3 at_ h mk).2.2.2.2.1 < (beg inn 0 op st r0 r1 r2 r3 at_ h mk).2.2.2.2.2.1.length ∧ (beg inn 0 op st r0 r1 r2 r3 at_ h mk).2.2.2.2.2.2.length = (beg inn 0 op st r0 r1 r2 r3 at_ h mk).2.2.2.2.2.1.length ∧ dg (beg inn 0 op st r0 r1 r2 r3 at_ h mk).1 ∧ dg (beg inn 0 op st r0 r1 r2 r3 at_ h mk).2.1 ∧ dg (beg inn 0 op st r0 r1 r2 r3 at_ h mk).2.2.1 ∧ dg (beg inn 0 op st r0 r1 r2 r3 at_ h mk).2.2.2.1 := by
  cases inn with
  | true => exact ⟨(hat rfl).1, (hat rfl).2, hm, d0, d1, d2, d3⟩
  | false => refine ⟨?_, ?_, ?_, ?_, ?_, ?_, ?_⟩ <;> simp [beg, dg, hm] <;> omega
 unfold C71
 refine cnT rfl ?_
 refine bt (gt_eTabI (by decide) (by simpa using hu)) ?_
 refine bt (gt_encI hcl.1 hw) ?_
 refine bt (v := !inn) (by rw [C116_eq _ _ _ _ _ _ _ _ _ _ _ _ _ _ _ _ _ _ _ _ _ _ hLg _, hopen, std_zeq]; exact beg_open hln0) ?_
 refine bt (beg_eq inn 0 op st r0 r1 r2 r3 at_ h mk hh (by omega) hst) ?_
 refine bt (hasMk_eq mks op ln hop hmk) ?_
 obtain ⟨hB1, hB2, hB3, hB4, hB5, hB6, hB7⟩ := hB
 refine bt (mkd_eq mks op ln (beg inn 0 op st r0 r1 r2 r3 at_ h mk).2.2.2.2.1 st (beg inn 0 op st r0 r1 r2 r3 at_ h mk).2.2.2.2.2.2 hB1 (by rw [hB3]; exact hB2) hst) ?_
 refine bt (gt_eCodeI hop hc) ?_
 obtain ⟨d, a, b, e⟩ := l
 refine bt (gt_encI hln.1 hl) ?_
 dsimp only
 rw [hwl, hws, hwc, hw2]
 generalize (beg inn 0 op st r0 r1 r2 r3 at_ h mk) = BB at hB1 hB2 hB3 hB4 hB5 hB6 hB7 ⊢
 obtain ⟨R0, R1, R2, R3, AT, H, MK⟩ := BB
 dsimp only at hB1 hB2 hB3 hB4 hB5 hB6 hB7 ⊢
 refine bt (v := ((xLn (d, a, b, e) (st + 1) cl ln R0 R1 R2 R3 AT c0 c1 c2 H).1, (xLn (d, a, b, e) (st + 1) cl ln R0 R1 R2 R3 AT c0 c1 c2 H).2.1, (xLn (d, a, b, e) (st + 1) cl ln R0 R1 R2 R3 AT c0 c1 c2 H).2.2.1, (xLn (d, a, b, e) (st + 1) cl ln R0 R1 R2 R3 AT c0 c1 c2 H).2.2.2.1, (xLn (d, a, b, e) (st + 1) cl ln R0 R1 R2 R3 AT c0 c1 c2 H).2.2.2.2.1, (xLn (d, a, b, e) (st + 1) cl ln R0 R1 R2 R3 AT c0 c1 c2 H).2.2.2.2.2.1, (xLn (d, a, b, e) (st + 1) cl ln R0 R1 R2 R3 AT c0 c1 c2 H).2.2.2.2.2.2.1, (xLn (d, a, b, e) (st + 1) cl ln R0 R1 R2 R3 AT c0 c1 c2 H).2.2.2.2.2.2.2.1, (xLn (d, a, b, e) (st + 1) cl ln R0 R1 R2 R3 AT c0 c1 c2 H).2.2.2.2.2.2.2.2.1, eCalls (xLn (d, a, b, e) (st + 1) cl ln R0 R1 R2 R3 AT c0 c1 c2 H).2.2.2.2.2.2.2.2.2)) ?_ rfl
 rcases okLine_do hok with ⟨h1, hA, hBb⟩ | ⟨h1, hA, hBb⟩ | ⟨h1, hA, hBb, hCc⟩ | ⟨h1, hA, hBb⟩ | ⟨h1, hA, hBb, hCc⟩ | ⟨h1, hA, hBb, _⟩ | ⟨h1, hA⟩
 all_goals (simp only at h1; subst h1; try dsimp only at hA; try dsimp only at hBb; try dsimp only at hCc)
 ·exact cnT rfl (bt (ckc0 hBb) (bt (ckc1 hBb) (bt (gc3 hBb) (bt (ckr0 hA) (bt (ckr1 hA) rfl)))))
 ·exact cnF rfl (bt (v := ((xLn (2, a, b, e) (st + 1) cl ln R0 R1 R2 R3 AT c0 c1 c2 H).1, (xLn (2, a, b, e) (st + 1) cl ln R0 R1 R2 R3 AT c0 c1 c2 H).2.1, (xLn (2, a, b, e) (st + 1) cl ln R0 R1 R2 R3 AT c0 c1 c2 H).2.2.1, (xLn (2, a, b, e) (st + 1) cl ln R0 R1 R2 R3 AT c0 c1 c2 H).2.2.2.1, (xLn (2, a, b, e) (st + 1) cl ln R0 R1 R2 R3 AT c0 c1 c2 H).2.2.2.2.1, (xLn (2, a, b, e) (st + 1) cl ln R0 R1 R2 R3 AT c0 c1 c2 H).2.2.2.2.2.1, (xLn (2, a, b, e) (st + 1) cl ln R0 R1 R2 R3 AT c0 c1 c2 H).2.2.2.2.2.2.1, (xLn (2, a, b, e) (st + 1) cl ln R0 R1 R2 R3 AT c0 c1 c2 H).2.2.2.2.2.2.2.1, (xLn (2, a, b, e) (st + 1) cl ln R0 R1 R2 R3 AT c0 c1 c2 H).2.2.2.2.2.2.2.2.1, eCalls (xLn (2, a, b, e) (st + 1) cl ln R0 R1 R2 R3 AT c0 c1 c2 H).2.2.2.2.2.2.2.2.2)) (cnT rfl (bt (ckr0 hBb) (bt (ckr1 hBb) (bt (gc4 hBb) (bt (ckc0 hA) (bt (ckc1 hA) rfl)))))) rfl)
 ·refine cnF rfl (bt (v := ((xLn (3, a, b, e) (st + 1) cl ln R0 R1 R2 R3 AT c0 c1 c2 H).1, (xLn (3, a, b, e) (st + 1) cl ln R0 R1 R2 R3 AT c0 c1 c2 H).2.1, (xLn (3, a, b, e) (st + 1) cl ln R0 R1 R2 R3 AT c0 c1 c2 H).2.2.1, (xLn (3, a, b, e) (st + 1) cl ln R0 R1 R2 R3 AT c0 c1 c2 H).2.2.2.1, (xLn (3, a, b, e) (st + 1) cl ln R0 R1 R2 R3 AT c0 c1 c2 H).2.2.2.2.1, (xLn (3, a, b, e) (st + 1) cl ln R0 R1 R2 R3 AT c0 c1 c2 H).2.2.2.2.2.1, (xLn (3, a, b, e) (st + 1) cl ln R0 R1 R2 R3 AT c0 c1 c2 H).2.2.2.2.2.2.1, (xLn (3, a, b, e) (st + 1) cl ln R0 R1 R2 R3 AT c0 c1 c2 H).2.2.2.2.2.2.2.1, (xLn (3, a, b, e) (st + 1) cl ln R0 R1 R2 R3 AT c0 c1 c2 H).2.2.2.2.2.2.2.2.1, eCalls (xLn (3, a, b, e) (st + 1) cl ln R0 R1 R2 R3 AT c0 c1 c2 H).2.2.2.2.2.2.2.2.2)) (cnF rfl (bt (v := ((xLn (3, a, b, e) (st + 1) cl ln R0 R1 R2 R3 AT c0 c1 c2 H).1, (xLn (3, a, b, e) (st + 1) cl ln R0 R1 R2 R3 AT c0 c1 c2 H).2.1, (xLn (3, a, b, e) (st + 1) cl ln R0 R1 R2 R3 AT c0 c1 c2 H).2.2.1, (xLn (3, a, b, e) (st + 1) cl ln R0 R1 R2 R3 AT c0 c1 c2 H).2.2.2.1, (xLn (3, a, b, e) (st + 1) cl ln R0 R1 R2 R3 AT c0 c1 c2 H).2.2.2.2.1, (xLn (3, a, b, e) (st + 1) cl ln R0 R1 R2 R3 AT c0 c1 c2 H).2.2.2.2.2.1, (xLn (3, a, b, e) (st + 1) cl ln R0 R1 R2 R3 AT c0 c1 c2 H).2.2.2.2.2.2.1, (xLn (3, a, b, e) (st + 1) cl ln R0 R1 R2 R3 AT c0 c1 c2 H).2.2.2.2.2.2.2.1, (xLn (3, a, b, e) (st + 1) cl ln R0 R1 R2 R3 AT c0 c1 c2 H).2.2.2.2.2.2.2.2.1, eCalls (xLn (3, a, b, e) (st + 1) cl ln R0 R1 R2 R3 AT c0 c1 c2 H).2.2.2.2.2.2.2.2.2)) (cnT rfl (bt (C118_eq _ _ _ _ _ _ _ _ _ _ _ _ _ _ _ _ _ _ _ _ _ _ _ _ _ _ hA hBb hCc) ?_)) rfl)) rfl)
  simp only [xLn]
  by_cases hq : rg3 c0 c1 c2 a = rg4 R0 R1 R2 R3 b
  ·simp only [if_pos hq]; rfl
  ·simp only [if_neg hq]; rfl
 ·exact cnF rfl (bt (v := ((xLn (4, a, b, e) (st + 1) cl ln R0 R1 R2 R3 AT c0 c1 c2 H).1, (xLn (4, a, b, e) (st + 1) cl ln R0 R1 R2 R3 AT c0 c1 c2 H).2.1, (xLn (4, a, b, e) (st + 1) cl ln R0 R1 R2 R3 AT c0 c1 c2 H).2.2.1, (xLn (4, a, b, e) (st + 1) cl ln R0 R1 R2 R3 AT c0 c1 c2 H).2.2.2.1, (xLn (4, a, b, e) (st + 1) cl ln R0 R1 R2 R3 AT c0 c1 c2 H).2.2.2.2.1, (xLn (4, a, b, e) (st + 1) cl ln R0 R1 R2 R3 AT c0 c1 c2 H).2.2.2.2.2.1, (xLn (4, a, b, e) (st + 1) cl ln R0 R1 R2 R3 AT c0 c1 c2 H).2.2.2.2.2.2.1, (xLn (4, a, b, e) (st + 1) cl ln R0 R1 R2 R3 AT c0 c1 c2 H).2.2.2.2.2.2.2.1, (xLn (4, a, b, e) (st + 1) cl ln R0 R1 R2 R3 AT c0 c1 c2 H).2.2.2.2.2.2.2.2.1, eCalls (xLn (4, a, b, e) (st + 1) cl ln R0 R1 R2 R3 AT c0 c1 c2 H).2.2.2.2.2.2.2.2.2)) (cnF rfl (bt (v := ((xLn (4, a, b, e) (st + 1) cl ln R0 R1 R2 R3 AT c0 c1 c2 H).1, (xLn (4, a, b, e) (st + 1) cl ln R0 R1 R2 R3 AT c0 c1 c2 H).2.1, (xLn (4, a, b, e) (st + 1) cl ln R0 R1 R2 R3 AT c0 c1 c2 H).2.2.1, (xLn (4, a, b, e) (st + 1) cl ln R0 R1 R2 R3 AT c0 c1 c2 H).2.2.2.1, (xLn (4, a, b, e) (st + 1) cl ln R0 R1 R2 R3 AT c0 c1 c2 H).2.2.2.2.1, (xLn (4, a, b, e) (st + 1) cl ln R0 R1 R2 R3 AT c0 c1 c2 H).2.2.2.2.2.1, (xLn (4, a, b, e) (st + 1) cl ln R0 R1 R2 R3 AT c0 c1 c2 H).2.2.2.2.2.2.1, (xLn (4, a, b, e) (st + 1) cl ln R0 R1 R2 R3 AT c0 c1 c2 H).2.2.2.2.2.2.2.1, (xLn (4, a, b, e) (st + 1) cl ln R0 R1 R2 R3 AT c0 c1 c2 H).2.2.2.2.2.2.2.2.1, eCalls (xLn (4, a, b, e) (st + 1) cl ln R0 R1 R2 R3 AT c0 c1 c2 H).2.2.2.2.2.2.2.2.2)) (cnF rfl (bt (v := (cl, ln + 1, pk a 0 b R0, pk a 1 b R1, pk a 2 b R2, pk a 3 b R3, eCalls H)) (cnT rfl (bt (ckr0 hA) (bt (ckr1 hA) rfl))) rfl)) rfl)) rfl)
 ·have hs : Ar.std.rem (Ar.std.wrp .i64 (Ar.std.zadd (rg4 R0 R1 R2 R3 b) (rg4 R0 R1 R2 R3 e))) 10 = ((rg4 R0 R1 R2 R3 b + rg4 R0 R1 R2 R3 e).tmod 10) := by
   have q1 := rg4_dg (i := b) hB4 hB5 hB6 hB7; have q2 := rg4_dg (i := e) hB4 hB5 hB6 hB7
   simp only [std_rem, std_wrp, std_zadd]; rw [w64 (by have := q1.1; have := q2.1; omega) (by have := q1.2; have := q2.2; omega)]
  refine cnF rfl (bt (v := ((xLn (5, a, b, e) (st + 1) cl ln R0 R1 R2 R3 AT c0 c1 c2 H).1, (xLn (5, a, b, e) (st + 1) cl ln R0 R1 R2 R3 AT c0 c1 c2 H).2.1, (xLn (5, a, b, e) (st + 1) cl ln R0 R1 R2 R3 AT c0 c1 c2 H).2.2.1, (xLn (5, a, b, e) (st + 1) cl ln R0 R1 R2 R3 AT c0 c1 c2 H).2.2.2.1, (xLn (5, a, b, e) (st + 1) cl ln R0 R1 R2 R3 AT c0 c1 c2 H).2.2.2.2.1, (xLn (5, a, b, e) (st + 1) cl ln R0 R1 R2 R3 AT c0 c1 c2 H).2.2.2.2.2.1, (xLn (5, a, b, e) (st + 1) cl ln R0 R1 R2 R3 AT c0 c1 c2 H).2.2.2.2.2.2.1, (xLn (5, a, b, e) (st + 1) cl ln R0 R1 R2 R3 AT c0 c1 c2 H).2.2.2.2.2.2.2.1, (xLn (5, a, b, e) (st + 1) cl ln R0 R1 R2 R3 AT c0 c1 c2 H).2.2.2.2.2.2.2.2.1, eCalls (xLn (5, a, b, e) (st + 1) cl ln R0 R1 R2 R3 AT c0 c1 c2 H).2.2.2.2.2.2.2.2.2)) (cnF rfl (bt (v := ((xLn (5, a, b, e) (st + 1) cl ln R0 R1 R2 R3 AT c0 c1 c2 H).1, (xLn (5, a, b, e) (st + 1) cl ln R0 R1 R2 R3 AT c0 c1 c2 H).2.1, (xLn (5, a, b, e) (st + 1) cl ln R0 R1 R2 R3 AT c0 c1 c2 H).2.2.1, (xLn (5, a, b, e) (st + 1) cl ln R0 R1 R2 R3 AT c0 c1 c2 H).2.2.2.1, (xLn (5, a, b, e) (st + 1) cl ln R0 R1 R2 R3 AT c0 c1 c2 H).2.2.2.2.1, (xLn (5, a, b, e) (st + 1) cl ln R0 R1 R2 R3 AT c0 c1 c2 H).2.2.2.2.2.1, (xLn (5, a, b, e) (st + 1) cl ln R0 R1 R2 R3 AT c0 c1 c2 H).2.2.2.2.2.2.1, (xLn (5, a, b, e) (st + 1) cl ln R0 R1 R2 R3 AT c0 c1 c2 H).2.2.2.2.2.2.2.1, (xLn (5, a, b, e) (st + 1) cl ln R0 R1 R2 R3 AT c0 c1 c2 H).2.2.2.2.2.2.2.2.1, eCalls (xLn (5, a, b, e) (st + 1) cl ln R0 R1 R2 R3 AT c0 c1 c2 H).2.2.2.2.2.2.2.2.2)) (cnF rfl (bt (v := (cl, ln + 1, pk a 0 ((rg4 R0 R1 R2 R3 b + rg4 R0 R1 R2 R3 e).tmod 10) R0, pk a 1 ((rg4 R0 R1 R2 R3 b + rg4 R0 R1 R2 R3 e).tmod 10) R1, pk a 2 ((rg4 R0 R1 R2 R3 b + rg4 R0 R1 R2 R3 e).tmod 10) R2, pk a 3 ((rg4 R0 R1 R2 R3 b + rg4 R0 R1 R2 R3 e).tmod 10) R3, eCalls H)) (cnF rfl (bt (v := (cl, ln + 1, pk a 0 ((rg4 R0 R1 R2 R3 b + rg4 R0 R1 R2 R3 e).tmod 10) R0, pk a 1 ((rg4 R0 R1 R2 R3 b + rg4 R0 R1 R2 R3 e).tmod 10) R1, pk a 2 ((rg4 R0 R1 R2 R3 b + rg4 R0 R1 R2 R3 e).tmod 10) R2, pk a 3 ((rg4 R0 R1 R2 R3 b + rg4 R0 R1 R2 R3 e).tmod 10) R3, eCalls H)) (cnT rfl (bt (ckr0 hBb) (bt (ckr1 hBb) (bt (gc4 hBb) (bt (ckr0 hCc) (bt (ckr1 hCc) (bt (gc4 hCc) (bt (v := ()) rfl (bt (ckr0 hA) (bt (ckr1 hA) ?_)))))))))) rfl)) rfl)) rfl)) rfl)
  simp only [hs]; rfl
 ·refine cnF rfl (bt (v := ((xLn (6, a, b, e) (st + 1) cl ln R0 R1 R2 R3 AT c0 c1 c2 H).1, (xLn (6, a, b, e) (st + 1) cl ln R0 R1 R2 R3 AT c0 c1 c2 H).2.1, (xLn (6, a, b, e) (st + 1) cl ln R0 R1 R2 R3 AT c0 c1 c2 H).2.2.1, (xLn (6, a, b, e) (st + 1) cl ln R0 R1 R2 R3 AT c0 c1 c2 H).2.2.2.1, (xLn (6, a, b, e) (st + 1) cl ln R0 R1 R2 R3 AT c0 c1 c2 H).2.2.2.2.1, (xLn (6, a, b, e) (st + 1) cl ln R0 R1 R2 R3 AT c0 c1 c2 H).2.2.2.2.2.1, (xLn (6, a, b, e) (st + 1) cl ln R0 R1 R2 R3 AT c0 c1 c2 H).2.2.2.2.2.2.1, (xLn (6, a, b, e) (st + 1) cl ln R0 R1 R2 R3 AT c0 c1 c2 H).2.2.2.2.2.2.2.1, (xLn (6, a, b, e) (st + 1) cl ln R0 R1 R2 R3 AT c0 c1 c2 H).2.2.2.2.2.2.2.2.1, eCalls (xLn (6, a, b, e) (st + 1) cl ln R0 R1 R2 R3 AT c0 c1 c2 H).2.2.2.2.2.2.2.2.2)) (cnF rfl (bt (v := ((xLn (6, a, b, e) (st + 1) cl ln R0 R1 R2 R3 AT c0 c1 c2 H).1, (xLn (6, a, b, e) (st + 1) cl ln R0 R1 R2 R3 AT c0 c1 c2 H).2.1, (xLn (6, a, b, e) (st + 1) cl ln R0 R1 R2 R3 AT c0 c1 c2 H).2.2.1, (xLn (6, a, b, e) (st + 1) cl ln R0 R1 R2 R3 AT c0 c1 c2 H).2.2.2.1, (xLn (6, a, b, e) (st + 1) cl ln R0 R1 R2 R3 AT c0 c1 c2 H).2.2.2.2.1, (xLn (6, a, b, e) (st + 1) cl ln R0 R1 R2 R3 AT c0 c1 c2 H).2.2.2.2.2.1, (xLn (6, a, b, e) (st + 1) cl ln R0 R1 R2 R3 AT c0 c1 c2 H).2.2.2.2.2.2.1, (xLn (6, a, b, e) (st + 1) cl ln R0 R1 R2 R3 AT c0 c1 c2 H).2.2.2.2.2.2.2.1, (xLn (6, a, b, e) (st + 1) cl ln R0 R1 R2 R3 AT c0 c1 c2 H).2.2.2.2.2.2.2.2.1, eCalls (xLn (6, a, b, e) (st + 1) cl ln R0 R1 R2 R3 AT c0 c1 c2 H).2.2.2.2.2.2.2.2.2)) (cnF rfl (bt (v := (cl, (if rg4 R0 R1 R2 R3 a = 0 then b else ln + 1), R0, R1, R2, R3, eCalls H)) (cnF rfl (bt (v := (cl, (if rg4 R0 R1 R2 R3 a = 0 then b else ln + 1), R0, R1, R2, R3, eCalls H)) (cnF rfl (bt (v := (cl, (if rg4 R0 R1 R2 R3 a = 0 then b else ln + 1), eCalls H)) (cnT rfl (bt (ckr0 hA) (bt (ckr1 hA) (bt (gc4 hA) (bt (v := if rg4 R0 R1 R2 R3 a = 0 then b else ln + 1) ?_ rfl))))) rfl)) rfl)) rfl)) rfl)) rfl)
  by_cases hq : rg4 R0 R1 R2 R3 a = 0
  ·rw [if_pos hq, std_zeq]; exact cnT (decide_eq_true hq) rfl
  ·rw [if_neg hq, std_zeq]; exact cnF (decide_eq_false hq) rfl
 ·obtain ⟨x, hx⟩ : ∃ x, H[AT.toNat]? = some x := ⟨_, List.getElem?_eq_getElem (by omega)⟩
  obtain ⟨x1, x2, x3, x4, x5, x6⟩ := x
  have hlt : AT.toNat < H.length := (List.getElem?_eq_some_iff.1 hx).1
  have g1 : gc Ar.std cCall (eCalls H) (Ar.std.nat AT) = some (x1, x2, x3, x4, x5, x6) := gc_enc (by simpa using hx)
  have e1 : Ar.std.lset (eCalls H) (Ar.std.nat AT) (.agg [.int .i64 x1, .int .i64 x2, .int .i64 x3, .int .i64 x4, .int .i64 x5, .int .i64 (2 * (st + 1))]) = eCalls (H.set AT.toNat (x1, x2, x3, x4, x5, 2 * (st + 1))) := enc_set (c := cCall) H AT.toNat (x1, x2, x3, x4, x5, 2 * (st + 1))
  have g2 : gc Ar.std cCall (eCalls (H.set AT.toNat (x1, x2, x3, x4, x5, 2 * (st + 1)))) (Ar.std.nat AT) = some (x1, x2, x3, x4, x5, 2 * (st + 1)) := gc_enc (by simp [hlt])
  have e2 : Ar.std.lset (eCalls (H.set AT.toNat (x1, x2, x3, x4, x5, 2 * (st + 1)))) (Ar.std.nat AT) (.agg [.int .i64 x1, .int .i64 x2, .int .i64 x3, .int .i64 (rg4 R0 R1 R2 R3 a), .int .i64 x5, .int .i64 (2 * (st + 1))]) = eCalls (H.set AT.toNat (x1, x2, x3, rg4 R0 R1 R2 R3 a, x5, 2 * (st + 1))) := by
   refine (enc_set (c := cCall) _ AT.toNat (x1, x2, x3, rg4 R0 R1 R2 R3 a, x5, 2 * (st + 1))).trans ?_
   rw [List.set_set]
  have hxx : xLn (7, a, b, e) (st + 1) cl ln R0 R1 R2 R3 AT c0 c1 c2 H = (cl + 1, 0, R0, R1, R2, R3, c0, c1, c2, H.set AT.toNat (x1, x2, x3, rg4 R0 R1 R2 R3 a, x5, 2 * (st + 1))) := by
   simp only [xLn, hx]; rfl
  rw [hxx]
  refine cnF rfl (bt (v := (cl + 1, 0, R0, R1, R2, R3, c0, c1, c2, eCalls (H.set AT.toNat (x1, x2, x3, rg4 R0 R1 R2 R3 a, x5, 2 * (st + 1))))) (cnF rfl (bt (v := (cl + 1, 0, R0, R1, R2, R3, c0, c1, c2, eCalls (H.set AT.toNat (x1, x2, x3, rg4 R0 R1 R2 R3 a, x5, 2 * (st + 1))))) (cnF rfl (bt (v := (cl + 1, 0, R0, R1, R2, R3, eCalls (H.set AT.toNat (x1, x2, x3, rg4 R0 R1 R2 R3 a, x5, 2 * (st + 1))))) (cnF rfl (bt (v := (cl + 1, 0, R0, R1, R2, R3, eCalls (H.set AT.toNat (x1, x2, x3, rg4 R0 R1 R2 R3 a, x5, 2 * (st + 1))))) (cnF rfl (bt (v := (cl + 1, 0, eCalls (H.set AT.toNat (x1, x2, x3, rg4 R0 R1 R2 R3 a, x5, 2 * (st + 1))))) (cnF rfl (bt (v := (cl + 1, 0, eCalls (H.set AT.toNat (x1, x2, x3, rg4 R0 R1 R2 R3 a, x5, 2 * (st + 1))))) (cnT rfl (bt (ck_of (by simpa using hB1)) (bt (ck_of (by simpa using hB2)) (bt (ckr0 hA) (bt (ckr1 hA) (bt (gc4 hA) (bt g1 ?_))))))) rfl)) rfl)) rfl)) rfl)) rfl)) rfl)
  dsimp only
  rw [e1]
  refine bt g2 ?_
  dsimp only
  rw [e2]
theorem C71_1 (c : Code) (u : Tab) (mks : List Int) (cl ln r0 r1 r2 r3 at_ y1 y2 y3 y4 y5 y6 y7 c0 c1 c2 st : Int) (h : List Call) (mk : List Int) (inn : Bool) (op : Int) (w : List Int) (ls : List Ln4) (l : Ln4)
  (hu : u[1]? = some w) (hcl : 0 ≤ cl ∧ cl ≤ 1000) (hw : w[cl.toNat]? = some op) (hop : 0 ≤ op) (hc : c[op.toNat]? = some ls) (hln : 0 ≤ ln ∧ ln ≤ 1000) (hl : ls[ln.toNat]? = some l) {m : Int} (hok : okLine l m = true)
  (hopen : open_ 1 h = inn) (hln0 : inn = false → ln = 0) (hh : h.length < 1000) (hm : mk.length = h.length) (hat : inn = true → 0 ≤ at_ ∧ at_ < h.length) (hst : 0 ≤ st ∧ st ≤ 1000) (hmk : mks = [] ∨ op.toNat < mks.length)
  (d0 : dg r0) (d1 : dg r1) (d2 : dg r2) (d3 : dg r3) :
  C71 Ar.std 1 (eInts mks) (eCode c) (eTab u) y1 y2 y3 y4 y5 y6 y7 cl ln r0 r1 r2 r3 at_ c0 c1 c2 st (eCalls h) (eInts mk) = some (eCode c, eTab u, y1, y2, y3, y4, y5, y6, y7, (xLn l (st + 1) cl ln (beg inn 1 op st r0 r1 r2 r3 at_ h mk).1 (beg inn 1 op st r0 r1 r2 r3 at_ h mk).2.1 (beg inn 1 op st r0 r1 r2 r3 at_ h mk).2.2.1 (beg inn 1 op st r0 r1 r2 r3 at_ h mk).2.2.2.1 (beg inn 1 op st r0 r1 r2 r3 at_ h mk).2.2.2.2.1 c0 c1 c2 (beg inn 1 op st r0 r1 r2 r3 at_ h mk).2.2.2.2.2.1).1, (xLn l (st + 1) cl ln (beg inn 1 op st r0 r1 r2 r3 at_ h mk).1 (beg inn 1 op st r0 r1 r2 r3 at_ h mk).2.1 (beg inn 1 op st r0 r1 r2 r3 at_ h mk).2.2.1 (beg inn 1 op st r0 r1 r2 r3 at_ h mk).2.2.2.1 (beg inn 1 op st r0 r1 r2 r3 at_ h mk).2.2.2.2.1 c0 c1 c2 (beg inn 1 op st r0 r1 r2 r3 at_ h mk).2.2.2.2.2.1).2.1, (xLn l (st + 1) cl ln (beg inn 1 op st r0 r1 r2 r3 at_ h mk).1 (beg inn 1 op st r0 r1 r2 r3 at_ h mk).2.1 (beg inn 1 op st r0 r1 r2 r3 at_ h mk).2.2.1 (beg inn 1 op st r0 r1 r2 r3 at_ h mk).2.2.2.1 (beg inn 1 op st r0 r1 r2 r3 at_ h mk).2.2.2.2.1 c0 c1 c2 (beg inn 1 op st r0 r1 r2 r3 at_ h mk).2.2.2.2.2.1).2.2.1, (xLn l (st + 1) cl ln (beg inn 1 op st r0 r1 r2 r3 at_ h mk).1 (beg inn 1 op st r0 r1 r2 r3 at_ h mk).2.1 (beg inn 1 op st r0 r1 r2 r3 at_ h mk).2.2.1 (beg inn 1 op st r0 r1 r2 r3 at_ h mk).2.2.2.1 (beg inn 1 op st r0 r1 r2 r3 at_ h mk).2.2.2.2.1 c0 c1 c2 (beg inn 1 op st r0 r1 r2 r3 at_ h mk).2.2.2.2.2.1).2.2.2.1, (xLn l (st + 1) cl ln (beg inn 1 op st r0 r1 r2 r3 at_ h mk).1 (beg inn 1 op st r0 r1 r2 r3 at_ h mk).2.1 (beg inn 1 op st r0 r1 r2 r3 at_ h mk).2.2.1 (beg inn 1 op st r0 r1 r2 r3 at_ h mk).2.2.2.1 (beg inn 1 op st r0 r1 r2 r3 at_ h mk).2.2.2.2.1 c0 c1 c2 (beg inn 1 op st r0 r1 r2 r3 at_ h mk).2.2.2.2.2.1).2.2.2.2.1, (xLn l (st + 1) cl ln (beg inn 1 op st r0 r1 r2 r3 at_ h mk).1 (beg inn 1 op st r0 r1 r2 r3 at_ h mk).2.1 (beg inn 1 op st r0 r1 r2 r3 at_ h mk).2.2.1 (beg inn 1 op st r0 r1 r2 r3 at_ h mk).2.2.2.1 (beg inn 1 op st r0 r1 r2 r3 at_ h mk).2.2.2.2.1 c0 c1 c2 (beg inn 1 op st r0 r1 r2 r3 at_ h mk).2.2.2.2.2.1).2.2.2.2.2.1, (beg inn 1 op st r0 r1 r2 r3 at_ h mk).2.2.2.2.1, (xLn l (st + 1) cl ln (beg inn 1 op st r0 r1 r2 r3 at_ h mk).1 (beg inn 1 op st r0 r1 r2 r3 at_ h mk).2.1 (beg inn 1 op st r0 r1 r2 r3 at_ h mk).2.2.1 (beg inn 1 op st r0 r1 r2 r3 at_ h mk).2.2.2.1 (beg inn 1 op st r0 r1 r2 r3 at_ h mk).2.2.2.2.1 c0 c1 c2 (beg inn 1 op st r0 r1 r2 r3 at_ h mk).2.2.2.2.2.1).2.2.2.2.2.2.1, (xLn l (st + 1) cl ln (beg inn 1 op st r0 r1 r2 r3 at_ h mk).1 (beg inn 1 op st r0 r1 r2 r3 at_ h mk).2.1 (beg inn 1 op st r0 r1 r2 r3 at_ h mk).2.2.1 (beg inn 1 op st r0 r1 r2 r3 at_ h mk).2.2.2.1 (beg inn 1 op st r0 r1 r2 r3 at_ h mk).2.2.2.2.1 c0 c1 c2 (beg inn 1 op st r0 r1 r2 r3 at_ h mk).2.2.2.2.2.1).2.2.2.2.2.2.2.1, (xLn l (st + 1) cl ln (beg inn 1 op st r0 r1 r2 r3 at_ h mk).1 (beg inn 1 op st r0 r1 r2 r3 at_ h mk).2.1 (beg inn 1 op st r0 r1 r2 r3 at_ h mk).2.2.1 (beg inn 1 op st r0 r1 r2 r3 at_ h mk).2.2.2.1 (beg inn 1 op st r0 r1 r2 r3 at_ h mk).2.2.2.2.1 c0 c1 c2 (beg inn 1 op st r0 r1 r2 r3 at_ h mk).2.2.2.2.2.1).2.2.2.2.2.2.2.2.1, st + 1, eCalls (xLn l (st + 1) cl ln (beg inn 1 op st r0 r1 r2 r3 at_ h mk).1 (beg inn 1 op st r0 r1 r2 r3 at_ h mk).2.1 (beg inn 1 op st r0 r1 r2 r3 at_ h mk).2.2.1 (beg inn 1 op st r0 r1 r2 r3 at_ h mk).2.2.2.1 (beg inn 1 op st r0 r1 r2 r3 at_ h mk).2.2.2.2.1 c0 c1 c2 (beg inn 1 op st r0 r1 r2 r3 at_ h mk).2.2.2.2.2.1).2.2.2.2.2.2.2.2.2, eInts (mkd mks op ln (beg inn 1 op st r0 r1 r2 r3 at_ h mk).2.2.2.2.1 (st + 1) (beg inn 1 op st r0 r1 r2 r3 at_ h mk).2.2.2.2.2.2)) := by
 have hLg : h.length < Lg := by show h.length < 9223372036854775808; omega
 have hwl : Ar.std.wrp .i64 (Ar.std.zadd ln 1) = ln + 1 := by simp only [std_wrp, std_zadd]; exact w64 (by omega) (by omega)
 have hwc : Ar.std.wrp .i64 (Ar.std.zadd cl 1) = cl + 1 := by simp only [std_wrp, std_zadd]; exact w64 (by omega) (by omega)
 have hws : Ar.std.wrp .i64 (Ar.std.zadd st 1) = st + 1 := by simp only [std_wrp, std_zadd]; exact w64 (by omega) (by omega)
 have hw2 : Ar.std.wrp .i64 (Ar.std.zmul 2 (st + 1)) = 2 * (st + 1) := by simp only [std_wrp, std_zmul]; exact w64 (by omega) (by omega)
 have hB : 0 ≤ (beg inn 1 op st r0 r1 r2 r3 at_ h mk).2.2.2.2.1 ∧ (beg inn 1 op st r0 r1 r2 r3 at_ h mk).2.2.2.2.1 < (beg inn 1 op st r0 r1 r2 r3 at_ h mk).2.2.2.2.2.1.length ∧ (beg inn 1 op st r0 r1 r2 r3 at_ h mk).2.2.2.2.2.2.length = (beg inn 1 op st r0 r1 r2 r3 at_ h mk).2.2.2.2.2.1.length ∧ dg (beg inn 1 op st r0 r1 r2 r3 at_ h mk).1 ∧ dg (beg inn 1 op st r0 r1 r2 r3 at_ h mk).2.1 ∧ dg (beg inn 1 op st r0 r1 r2 r3 at_ h mk).2.2.1 ∧ dg (beg inn 1 op st r0 r1 r2 r3 at_ h mk).2.2.2.1 := by
  cases inn with
  | true => exact ⟨(hat rfl).1, (hat rfl).2, hm, d0, d1, d2, d3⟩
  | false => refine ⟨?_, ?_, ?_, ?_, ?_, ?_, ?_⟩ <;> simp [beg, dg, hm] <;> omega
 unfold C71
 refine cnF rfl (cnT rfl ?_)
 refine bt (gt_eTabI (by decide) (by simpa using hu)) ?_
 refine bt (gt_encI hcl.1 hw) ?_
 refine bt (v := !inn) (by rw [C116_eq _ _ _ _ _ _ _ _ _ _ _ _ _ _ _ _ _ _ _ _ _ _ hLg _, hopen, std_zeq]; exact beg_open hln0) ?_
 refine bt (beg_eq inn 1 op st r0 r1 r2 r3 at_ h mk hh (by omega) hst) ?_
 refine bt (hasMk_eq mks op ln hop hmk) ?_
 obtain ⟨hB1, hB2, hB3, hB4, hB5, hB6, hB7⟩ := hB
 refine bt (mkd_eq mks op ln (beg inn 1 op st r0 r1 r2 r3 at_ h mk).2.2.2.2.1 st (beg inn 1 op st r0 r1 r2 r3 at_ h mk).2.2.2.2.2.2 hB1 (by rw [hB3]; exact hB2) hst) ?_
 refine bt (gt_eCodeI hop hc) ?_
 obtain ⟨d, a, b, e⟩ := l
 refine bt (gt_encI hln.1 hl) ?_
 dsimp only
 rw [hwl, hws, hwc, hw2]
 generalize (beg inn 1 op st r0 r1 r2 r3 at_ h mk) = BB at hB1 hB2 hB3 hB4 hB5 hB6 hB7 ⊢
 obtain ⟨R0, R1, R2, R3, AT, H, MK⟩ := BB
 dsimp only at hB1 hB2 hB3 hB4 hB5 hB6 hB7 ⊢
 refine bt (v := ((xLn (d, a, b, e) (st + 1) cl ln R0 R1 R2 R3 AT c0 c1 c2 H).1, (xLn (d, a, b, e) (st + 1) cl ln R0 R1 R2 R3 AT c0 c1 c2 H).2.1, (xLn (d, a, b, e) (st + 1) cl ln R0 R1 R2 R3 AT c0 c1 c2 H).2.2.1, (xLn (d, a, b, e) (st + 1) cl ln R0 R1 R2 R3 AT c0 c1 c2 H).2.2.2.1, (xLn (d, a, b, e) (st + 1) cl ln R0 R1 R2 R3 AT c0 c1 c2 H).2.2.2.2.1, (xLn (d, a, b, e) (st + 1) cl ln R0 R1 R2 R3 AT c0 c1 c2 H).2.2.2.2.2.1, (xLn (d, a, b, e) (st + 1) cl ln R0 R1 R2 R3 AT c0 c1 c2 H).2.2.2.2.2.2.1, (xLn (d, a, b, e) (st + 1) cl ln R0 R1 R2 R3 AT c0 c1 c2 H).2.2.2.2.2.2.2.1, (xLn (d, a, b, e) (st + 1) cl ln R0 R1 R2 R3 AT c0 c1 c2 H).2.2.2.2.2.2.2.2.1, eCalls (xLn (d, a, b, e) (st + 1) cl ln R0 R1 R2 R3 AT c0 c1 c2 H).2.2.2.2.2.2.2.2.2)) ?_ rfl
 rcases okLine_do hok with ⟨h1, hA, hBb⟩ | ⟨h1, hA, hBb⟩ | ⟨h1, hA, hBb, hCc⟩ | ⟨h1, hA, hBb⟩ | ⟨h1, hA, hBb, hCc⟩ | ⟨h1, hA, hBb, _⟩ | ⟨h1, hA⟩
 all_goals (simp only at h1; subst h1; try dsimp only at hA; try dsimp only at hBb; try dsimp only at hCc)
 ·exact cnT rfl (bt (ckc0 hBb) (bt (ckc1 hBb) (bt (gc3 hBb) (bt (ckr0 hA) (bt (ckr1 hA) rfl)))))
 ·exact cnF rfl (bt (v := ((xLn (2, a, b, e) (st + 1) cl ln R0 R1 R2 R3 AT c0 c1 c2 H).1, (xLn (2, a, b, e) (st + 1) cl ln R0 R1 R2 R3 AT c0 c1 c2 H).2.1, (xLn (2, a, b, e) (st + 1) cl ln R0 R1 R2 R3 AT c0 c1 c2 H).2.2.1, (xLn (2, a, b, e) (st + 1) cl ln R0 R1 R2 R3 AT c0 c1 c2 H).2.2.2.1, (xLn (2, a, b, e) (st + 1) cl ln R0 R1 R2 R3 AT c0 c1 c2 H).2.2.2.2.1, (xLn (2, a, b, e) (st + 1) cl ln R0 R1 R2 R3 AT c0 c1 c2 H).2.2.2.2.2.1, (xLn (2, a, b, e) (st + 1) cl ln R0 R1 R2 R3 AT c0 c1 c2 H).2.2.2.2.2.2.1, (xLn (2, a, b, e) (st + 1) cl ln R0 R1 R2 R3 AT c0 c1 c2 H).2.2.2.2.2.2.2.1, (xLn (2, a, b, e) (st + 1) cl ln R0 R1 R2 R3 AT c0 c1 c2 H).2.2.2.2.2.2.2.2.1, eCalls (xLn (2, a, b, e) (st + 1) cl ln R0 R1 R2 R3 AT c0 c1 c2 H).2.2.2.2.2.2.2.2.2)) (cnT rfl (bt (ckr0 hBb) (bt (ckr1 hBb) (bt (gc4 hBb) (bt (ckc0 hA) (bt (ckc1 hA) rfl)))))) rfl)
 ·refine cnF rfl (bt (v := ((xLn (3, a, b, e) (st + 1) cl ln R0 R1 R2 R3 AT c0 c1 c2 H).1, (xLn (3, a, b, e) (st + 1) cl ln R0 R1 R2 R3 AT c0 c1 c2 H).2.1, (xLn (3, a, b, e) (st + 1) cl ln R0 R1 R2 R3 AT c0 c1 c2 H).2.2.1, (xLn (3, a, b, e) (st + 1) cl ln R0 R1 R2 R3 AT c0 c1 c2 H).2.2.2.1, (xLn (3, a, b, e) (st + 1) cl ln R0 R1 R2 R3 AT c0 c1 c2 H).2.2.2.2.1, (xLn (3, a, b, e) (st + 1) cl ln R0 R1 R2 R3 AT c0 c1 c2 H).2.2.2.2.2.1, (xLn (3, a, b, e) (st + 1) cl ln R0 R1 R2 R3 AT c0 c1 c2 H).2.2.2.2.2.2.1, (xLn (3, a, b, e) (st + 1) cl ln R0 R1 R2 R3 AT c0 c1 c2 H).2.2.2.2.2.2.2.1, (xLn (3, a, b, e) (st + 1) cl ln R0 R1 R2 R3 AT c0 c1 c2 H).2.2.2.2.2.2.2.2.1, eCalls (xLn (3, a, b, e) (st + 1) cl ln R0 R1 R2 R3 AT c0 c1 c2 H).2.2.2.2.2.2.2.2.2)) (cnF rfl (bt (v := ((xLn (3, a, b, e) (st + 1) cl ln R0 R1 R2 R3 AT c0 c1 c2 H).1, (xLn (3, a, b, e) (st + 1) cl ln R0 R1 R2 R3 AT c0 c1 c2 H).2.1, (xLn (3, a, b, e) (st + 1) cl ln R0 R1 R2 R3 AT c0 c1 c2 H).2.2.1, (xLn (3, a, b, e) (st + 1) cl ln R0 R1 R2 R3 AT c0 c1 c2 H).2.2.2.1, (xLn (3, a, b, e) (st + 1) cl ln R0 R1 R2 R3 AT c0 c1 c2 H).2.2.2.2.1, (xLn (3, a, b, e) (st + 1) cl ln R0 R1 R2 R3 AT c0 c1 c2 H).2.2.2.2.2.1, (xLn (3, a, b, e) (st + 1) cl ln R0 R1 R2 R3 AT c0 c1 c2 H).2.2.2.2.2.2.1, (xLn (3, a, b, e) (st + 1) cl ln R0 R1 R2 R3 AT c0 c1 c2 H).2.2.2.2.2.2.2.1, (xLn (3, a, b, e) (st + 1) cl ln R0 R1 R2 R3 AT c0 c1 c2 H).2.2.2.2.2.2.2.2.1, eCalls (xLn (3, a, b, e) (st + 1) cl ln R0 R1 R2 R3 AT c0 c1 c2 H).2.2.2.2.2.2.2.2.2)) (cnT rfl (bt (C118a_eq _ _ _ _ _ _ _ _ _ _ _ _ _ _ _ _ _ _ _ _ _ _ _ _ _ _ hA hBb hCc) ?_)) rfl)) rfl)
  simp only [xLn]
  by_cases hq : rg3 c0 c1 c2 a = rg4 R0 R1 R2 R3 b
  ·simp only [if_pos hq]; rfl
  ·simp only [if_neg hq]; rfl
 ·exact cnF rfl (bt (v := ((xLn (4, a, b, e) (st + 1) cl ln R0 R1 R2 R3 AT c0 c1 c2 H).1, (xLn (4, a, b, e) (st + 1) cl ln R0 R1 R2 R3 AT c0 c1 c2 H).2.1, (xLn (4, a, b, e) (st + 1) cl ln R0 R1 R2 R3 AT c0 c1 c2 H).2.2.1, (xLn (4, a, b, e) (st + 1) cl ln R0 R1 R2 R3 AT c0 c1 c2 H).2.2.2.1, (xLn (4, a, b, e) (st + 1) cl ln R0 R1 R2 R3 AT c0 c1 c2 H).2.2.2.2.1, (xLn (4, a, b, e) (st + 1) cl ln R0 R1 R2 R3 AT c0 c1 c2 H).2.2.2.2.2.1, (xLn (4, a, b, e) (st + 1) cl ln R0 R1 R2 R3 AT c0 c1 c2 H).2.2.2.2.2.2.1, (xLn (4, a, b, e) (st + 1) cl ln R0 R1 R2 R3 AT c0 c1 c2 H).2.2.2.2.2.2.2.1, (xLn (4, a, b, e) (st + 1) cl ln R0 R1 R2 R3 AT c0 c1 c2 H).2.2.2.2.2.2.2.2.1, eCalls (xLn (4, a, b, e) (st + 1) cl ln R0 R1 R2 R3 AT c0 c1 c2 H).2.2.2.2.2.2.2.2.2)) (cnF rfl (bt (v := ((xLn (4, a, b, e) (st + 1) cl ln R0 R1 R2 R3 AT c0 c1 c2 H).1, (xLn (4, a, b, e) (st + 1) cl ln R0 R1 R2 R3 AT c0 c1 c2 H).2.1, (xLn (4, a, b, e) (st + 1) cl ln R0 R1 R2 R3 AT c0 c1 c2 H).2.2.1, (xLn (4, a, b, e) (st + 1) cl ln R0 R1 R2 R3 AT c0 c1 c2 H).2.2.2.1, (xLn (4, a, b, e) (st + 1) cl ln R0 R1 R2 R3 AT c0 c1 c2 H).2.2.2.2.1, (xLn (4, a, b, e) (st + 1) cl ln R0 R1 R2 R3 AT c0 c1 c2 H).2.2.2.2.2.1, (xLn (4, a, b, e) (st + 1) cl ln R0 R1 R2 R3 AT c0 c1 c2 H).2.2.2.2.2.2.1, (xLn (4, a, b, e) (st + 1) cl ln R0 R1 R2 R3 AT c0 c1 c2 H).2.2.2.2.2.2.2.1, (xLn (4, a, b, e) (st + 1) cl ln R0 R1 R2 R3 AT c0 c1 c2 H).2.2.2.2.2.2.2.2.1, eCalls (xLn (4, a, b, e) (st + 1) cl ln R0 R1 R2 R3 AT c0 c1 c2 H).2.2.2.2.2.2.2.2.2)) (cnF rfl (bt (v := (cl, ln + 1, pk a 0 b R0, pk a 1 b R1, pk a 2 b R2, pk a 3 b R3, eCalls H)) (cnT rfl (bt (ckr0 hA) (bt (ckr1 hA) rfl))) rfl)) rfl)) rfl)
 ·have hs : Ar.std.rem (Ar.std.wrp .i64 (Ar.std.zadd (rg4 R0 R1 R2 R3 b) (rg4 R0 R1 R2 R3 e))) 10 = ((rg4 R0 R1 R2 R3 b + rg4 R0 R1 R2 R3 e).tmod 10) := by
   have q1 := rg4_dg (i := b) hB4 hB5 hB6 hB7; have q2 := rg4_dg (i := e) hB4 hB5 hB6 hB7
   simp only [std_rem, std_wrp, std_zadd]; rw [w64 (by have := q1.1; have := q2.1; omega) (by have := q1.2; have := q2.2; omega)]
  refine cnF rfl (bt (v := ((xLn (5, a, b, e) (st + 1) cl ln R0 R1 R2 R3 AT c0 c1 c2 H).1, (xLn (5, a, b, e) (st + 1) cl ln R0 R1 R2 R3 AT c0 c1 c2 H).2.1, (xLn (5, a, b, e) (st + 1) cl ln R0 R1 R2 R3 AT c0 c1 c2 H).2.2.1, (xLn (5, a, b, e) (st + 1) cl ln R0 R1 R2 R3 AT c0 c1 c2 H).2.2.2.1, (xLn (5, a, b, e) (st + 1) cl ln R0 R1 R2 R3 AT c0 c1 c2 H).2.2.2.2.1, (xLn (5, a, b, e) (st + 1) cl ln R0 R1 R2 R3 AT c0 c1 c2 H).2.2.2.2.2.1, (xLn (5, a, b, e) (st + 1) cl ln R0 R1 R2 R3 AT c0 c1 c2 H).2.2.2.2.2.2.1, (xLn (5, a, b, e) (st + 1) cl ln R0 R1 R2 R3 AT c0 c1 c2 H).2.2.2.2.2.2.2.1, (xLn (5, a, b, e) (st + 1) cl ln R0 R1 R2 R3 AT c0 c1 c2 H).2.2.2.2.2.2.2.2.1, eCalls (xLn (5, a, b, e) (st + 1) cl ln R0 R1 R2 R3 AT c0 c1 c2 H).2.2.2.2.2.2.2.2.2)) (cnF rfl (bt (v := ((xLn (5, a, b, e) (st + 1) cl ln R0 R1 R2 R3 AT c0 c1 c2 H).1, (xLn (5, a, b, e) (st + 1) cl ln R0 R1 R2 R3 AT c0 c1 c2 H).2.1, (xLn (5, a, b, e) (st + 1) cl ln R0 R1 R2 R3 AT c0 c1 c2 H).2.2.1, (xLn (5, a, b, e) (st + 1) cl ln R0 R1 R2 R3 AT c0 c1 c2 H).2.2.2.1, (xLn (5, a, b, e) (st + 1) cl ln R0 R1 R2 R3 AT c0 c1 c2 H).2.2.2.2.1, (xLn (5, a, b, e) (st + 1) cl ln R0 R1 R2 R3 AT c0 c1 c2 H).2.2.2.2.2.1, (xLn (5, a, b, e) (st + 1) cl ln R0 R1 R2 R3 AT c0 c1 c2 H).2.2.2.2.2.2.1, (xLn (5, a, b, e) (st + 1) cl ln R0 R1 R2 R3 AT c0 c1 c2 H).2.2.2.2.2.2.2.1, (xLn (5, a, b, e) (st + 1) cl ln R0 R1 R2 R3 AT c0 c1 c2 H).2.2.2.2.2.2.2.2.1, eCalls (xLn (5, a, b, e) (st + 1) cl ln R0 R1 R2 R3 AT c0 c1 c2 H).2.2.2.2.2.2.2.2.2)) (cnF rfl (bt (v := (cl, ln + 1, pk a 0 ((rg4 R0 R1 R2 R3 b + rg4 R0 R1 R2 R3 e).tmod 10) R0, pk a 1 ((rg4 R0 R1 R2 R3 b + rg4 R0 R1 R2 R3 e).tmod 10) R1, pk a 2 ((rg4 R0 R1 R2 R3 b + rg4 R0 R1 R2 R3 e).tmod 10) R2, pk a 3 ((rg4 R0 R1 R2 R3 b + rg4 R0 R1 R2 R3 e).tmod 10) R3, eCalls H)) (cnF rfl (bt (v := (cl, ln + 1, pk a 0 ((rg4 R0 R1 R2 R3 b + rg4 R0 R1 R2 R3 e).tmod 10) R0, pk a 1 ((rg4 R0 R1 R2 R3 b + rg4 R0 R1 R2 R3 e).tmod 10) R1, pk a 2 ((rg4 R0 R1 R2 R3 b + rg4 R0 R1 R2 R3 e).tmod 10) R2, pk a 3 ((rg4 R0 R1 R2 R3 b + rg4 R0 R1 R2 R3 e).tmod 10) R3, eCalls H)) (cnT rfl (bt (ckr0 hBb) (bt (ckr1 hBb) (bt (gc4 hBb) (bt (ckr0 hCc) (bt (ckr1 hCc) (bt (gc4 hCc) (bt (v := ()) rfl (bt (ckr0 hA) (bt (ckr1 hA) ?_)))))))))) rfl)) rfl)) rfl)) rfl)
  simp only [hs]; rfl
 ·refine cnF rfl (bt (v := ((xLn (6, a, b, e) (st + 1) cl ln R0 R1 R2 R3 AT c0 c1 c2 H).1, (xLn (6, a, b, e) (st + 1) cl ln R0 R1 R2 R3 AT c0 c1 c2 H).2.1, (xLn (6, a, b, e) (st + 1) cl ln R0 R1 R2 R3 AT c0 c1 c2 H).2.2.1, (xLn (6, a, b, e) (st + 1) cl ln R0 R1 R2 R3 AT c0 c1 c2 H).2.2.2.1, (xLn (6, a, b, e) (st + 1) cl ln R0 R1 R2 R3 AT c0 c1 c2 H).2.2.2.2.1, (xLn (6, a, b, e) (st + 1) cl ln R0 R1 R2 R3 AT c0 c1 c2 H).2.2.2.2.2.1, (xLn (6, a, b, e) (st + 1) cl ln R0 R1 R2 R3 AT c0 c1 c2 H).2.2.2.2.2.2.1, (xLn (6, a, b, e) (st + 1) cl ln R0 R1 R2 R3 AT c0 c1 c2 H).2.2.2.2.2.2.2.1, (xLn (6, a, b, e) (st + 1) cl ln R0 R1 R2 R3 AT c0 c1 c2 H).2.2.2.2.2.2.2.2.1, eCalls (xLn (6, a, b, e) (st + 1) cl ln R0 R1 R2 R3 AT c0 c1 c2 H).2.2.2.2.2.2.2.2.2)) (cnF rfl (bt (v := ((xLn (6, a, b, e) (st + 1) cl ln R0 R1 R2 R3 AT c0 c1 c2 H).1, (xLn (6, a, b, e) (st + 1) cl ln R0 R1 R2 R3 AT c0 c1 c2 H).2.1, (xLn (6, a, b, e) (st + 1) cl ln R0 R1 R2 R3 AT c0 c1 c2 H).2.2.1, (xLn (6, a, b, e) (st + 1) cl ln R0 R1 R2 R3 AT c0 c1 c2 H).2.2.2.1, (xLn (6, a, b, e) (st + 1) cl ln R0 R1 R2 R3 AT c0 c1 c2 H).2.2.2.2.1, (xLn (6, a, b, e) (st + 1) cl ln R0 R1 R2 R3 AT c0 c1 c2 H).2.2.2.2.2.1, (xLn (6, a, b, e) (st + 1) cl ln R0 R1 R2 R3 AT c0 c1 c2 H).2.2.2.2.2.2.1, (xLn (6, a, b, e) (st + 1) cl ln R0 R1 R2 R3 AT c0 c1 c2 H).2.2.2.2.2.2.2.1, (xLn (6, a, b, e) (st + 1) cl ln R0 R1 R2 R3 AT c0 c1 c2 H).2.2.2.2.2.2.2.2.1, eCalls (xLn (6, a, b, e) (st + 1) cl ln R0 R1 R2 R3 AT c0 c1 c2 H).2.2.2.2.2.2.2.2.2)) (cnF rfl (bt (v := (cl, (if rg4 R0 R1 R2 R3 a = 0 then b else ln + 1), R0, R1, R2, R3, eCalls H)) (cnF rfl (bt (v := (cl, (if rg4 R0 R1 R2 R3 a = 0 then b else ln + 1), R0, R1, R2, R3, eCalls H)) (cnF rfl (bt (v := (cl, (if rg4 R0 R1 R2 R3 a = 0 then b else ln + 1), eCalls H)) (cnT rfl (bt (ckr0 hA) (bt (ckr1 hA) (bt (gc4 hA) (bt (v := if rg4 R0 R1 R2 R3 a = 0 then b else ln + 1) ?_ rfl))))) rfl)) rfl)) rfl)) rfl)) rfl)
  by_cases hq : rg4 R0 R1 R2 R3 a = 0
  ·rw [if_pos hq, std_zeq]; exact cnT (decide_eq_true hq) rfl
  ·rw [if_neg hq, std_zeq]; exact cnF (decide_eq_false hq) rfl
 ·obtain ⟨x, hx⟩ : ∃ x, H[AT.toNat]? = some x := ⟨_, List.getElem?_eq_getElem (by omega)⟩
  obtain ⟨x1, x2, x3, x4, x5, x6⟩ := x
  have hlt : AT.toNat < H.length := (List.getElem?_eq_some_iff.1 hx).1
  have g1 : gc Ar.std cCall (eCalls H) (Ar.std.nat AT) = some (x1, x2, x3, x4, x5, x6) := gc_enc (by simpa using hx)
  have e1 : Ar.std.lset (eCalls H) (Ar.std.nat AT) (.agg [.int .i64 x1, .int .i64 x2, .int .i64 x3, .int .i64 x4, .int .i64 x5, .int .i64 (2 * (st + 1))]) = eCalls (H.set AT.toNat (x1, x2, x3, x4, x5, 2 * (st + 1))) := enc_set (c := cCall) H AT.toNat (x1, x2, x3, x4, x5, 2 * (st + 1))
  have g2 : gc Ar.std cCall (eCalls (H.set AT.toNat (x1, x2, x3, x4, x5, 2 * (st + 1)))) (Ar.std.nat AT) = some (x1, x2, x3, x4, x5, 2 * (st + 1)) := gc_enc (by simp [hlt])
  have e2 : Ar.std.lset (eCalls (H.set AT.toNat (x1, x2, x3, x4, x5, 2 * (st + 1)))) (Ar.std.nat AT) (.agg [.int .i64 x1, .int .i64 x2, .int .i64 x3, .int .i64 (rg4 R0 R1 R2 R3 a), .int .i64 x5, .int .i64 (2 * (st + 1))]) = eCalls (H.set AT.toNat (x1, x2, x3, rg4 R0 R1 R2 R3 a, x5, 2 * (st + 1))) := by
   refine (enc_set (c := cCall) _ AT.toNat (x1, x2, x3, rg4 R0 R1 R2 R3 a, x5, 2 * (st + 1))).trans ?_
   rw [List.set_set]
  have hxx : xLn (7, a, b, e) (st + 1) cl ln R0 R1 R2 R3 AT c0 c1 c2 H = (cl + 1, 0, R0, R1, R2, R3, c0, c1, c2, H.set AT.toNat (x1, x2, x3, rg4 R0 R1 R2 R3 a, x5, 2 * (st + 1))) := by
   simp only [xLn, hx]; rfl
  rw [hxx]
  refine cnF rfl (bt (v := (cl + 1, 0, R0, R1, R2, R3, c0, c1, c2, eCalls (H.set AT.toNat (x1, x2, x3, rg4 R0 R1 R2 R3 a, x5, 2 * (st + 1))))) (cnF rfl (bt (v := (cl + 1, 0, R0, R1, R2, R3, c0, c1, c2, eCalls (H.set AT.toNat (x1, x2, x3, rg4 R0 R1 R2 R3 a, x5, 2 * (st + 1))))) (cnF rfl (bt (v := (cl + 1, 0, R0, R1, R2, R3, eCalls (H.set AT.toNat (x1, x2, x3, rg4 R0 R1 R2 R3 a, x5, 2 * (st + 1))))) (cnF rfl (bt (v := (cl + 1, 0, R0, R1, R2, R3, eCalls (H.set AT.toNat (x1, x2, x3, rg4 R0 R1 R2 R3 a, x5, 2 * (st + 1))))) (cnF rfl (bt (v := (cl + 1, 0, eCalls (H.set AT.toNat (x1, x2, x3, rg4 R0 R1 R2 R3 a, x5, 2 * (st + 1))))) (cnF rfl (bt (v := (cl + 1, 0, eCalls (H.set AT.toNat (x1, x2, x3, rg4 R0 R1 R2 R3 a, x5, 2 * (st + 1))))) (cnT rfl (bt (ck_of (by simpa using hB1)) (bt (ck_of (by simpa using hB2)) (bt (ckr0 hA) (bt (ckr1 hA) (bt (gc4 hA) (bt g1 ?_))))))) rfl)) rfl)) rfl)) rfl)) rfl)) rfl)
  dsimp only
  rw [e1]
  refine bt g2 ?_
  dsimp only
  rw [e2]
end Go.Am

set_option maxRecDepth 100000
set_option maxHeartbeats 2000000
set_option linter.unusedVariables false
set_option linter.unusedSimpArgs false
namespace Go.Am
open Go
end Go.Am

set_option maxRecDepth 100000
set_option linter.unusedVariables false
set_option linter.unusedSimpArgs false
namespace Go.Am
open Go
structure Hd where
 cl : Int
 ln : Int
 r0 : Int
 r1 : Int
 r2 : Int
 r3 : Int
 at_ : Int
 inn : Bool
structure Mc where
 a : Hd
 b : Hd
 c0 : Int
 c1 : Int
 c2 : Int
 st : Int
 h : List Call
 ms : List Int
def hd0 : Hd := ⟨0, 0, 0, 0, 0, 0, 0, false⟩
def mc0 : Mc := ⟨hd0, hd0, 0, 0, 0, 0, [], []⟩
def Mc.hd (m : Mc) (t : Nat) : Hd := if t = 0 then m.a else m.b
def opOf (u : Tab) (t : Nat) (cl : Int) : Int := (u.getD t []).getD cl.toNat 0
def lnOf (c : Code) (op ln : Int) : Ln4 := (c.getD op.toNat []).getD ln.toNat (0, 0, 0, 0)
def stB (u : Tab) (t : Nat) (m : Mc) : Int × Int × Int × Int × Int × List Call × List Int :=
 beg (m.hd t).inn t (opOf u t (m.hd t).cl) m.st (m.hd t).r0 (m.hd t).r1 (m.hd t).r2 (m.hd t).r3 (m.hd t).at_ m.h m.ms
def stL (c : Code) (u : Tab) (t : Nat) (m : Mc) : Ln4 := lnOf c (opOf u t (m.hd t).cl) (m.hd t).ln
def stX (c : Code) (u : Tab) (t : Nat) (m : Mc) : Xs :=
 xLn (stL c u t m) (m.st + 1) (m.hd t).cl (m.hd t).ln (stB u t m).1 (stB u t m).2.1 (stB u t m).2.2.1 (stB u t m).2.2.2.1 (stB u t m).2.2.2.2.1 m.c0 m.c1 m.c2 (stB u t m).2.2.2.2.2.1
def stH (c : Code) (u : Tab) (t : Nat) (m : Mc) : Hd :=
 ⟨(stX c u t m).1, (stX c u t m).2.1, (stX c u t m).2.2.1, (stX c u t m).2.2.2.1, (stX c u t m).2.2.2.2.1, (stX c u t m).2.2.2.2.2.1, (stB u t m).2.2.2.2.1, !decide ((stL c u t m).1 = 7)⟩
def stepM (c : Code) (u : Tab) (mks : List Int) (t : Nat) (m : Mc) : Mc :=
 { a := if t = 0 then stH c u t m else m.a, b := if t = 0 then m.b else stH c u t m
   c0 := (stX c u t m).2.2.2.2.2.2.1, c1 := (stX c u t m).2.2.2.2.2.2.2.1, c2 := (stX c u t m).2.2.2.2.2.2.2.2.1, st := m.st + 1
   h := (stX c u t m).2.2.2.2.2.2.2.2.2, ms := mkd mks (opOf u t (m.hd t).cl) (m.hd t).ln (stB u t m).2.2.2.2.1 (m.st + 1) (stB u t m).2.2.2.2.2.2 }
def hasM (u : Tab) (t : Int) (m : Mc) : Bool := btw 0 t (u.length - 1) && decide ((m.hd t.toNat).cl < ((u.getD t.toNat []).length : Int))
structure HInv (c : Code) (u : Tab) (t : Nat) (d : Hd) (h : List Call) : Prop where
 cl0 : 0 ≤ d.cl
 reg : dg d.r0 ∧ dg d.r1 ∧ dg d.r2 ∧ dg d.r3
 idle : d.inn = false → d.ln = 0
 busy : d.inn = true → 0 ≤ d.at_ ∧ d.cl < ((u.getD t []).length : Int) ∧ 0 ≤ d.ln ∧ d.ln < ((c.getD (opOf u t d.cl).toNat []).length : Int) ∧ ∃ x, h[d.at_.toNat]? = some x ∧ x.1 = t ∧ x.2.2.1 = opOf u t d.cl ∧ x.2.2.2.2.2 = 0
 uniq : ∀ (i : Nat) (x : Call), h[i]? = some x → x.1 = t → x.2.2.2.2.2 = 0 → d.inn = true ∧ d.at_ = i
structure MInv (c : Code) (u : Tab) (m : Mc) : Prop where
 a : HInv c u 0 m.a m.h
 b : HInv c u 1 m.b m.h
 cel : dg m.c0 ∧ dg m.c1 ∧ dg m.c2
 ms : m.ms.length = m.h.length
 st : (m.h.length : Int) ≤ m.st
theorem MInv.hd {c : Code} {u : Tab} {m : Mc} (h : MInv c u m) {t : Nat} (ht : t < 2) : HInv c u t (m.hd t) m.h := by
 match t, ht with
 | 0, _ => exact h.a
 | 1, _ => exact h.b
theorem hinv0 (c : Code) (u : Tab) (t : Nat) : HInv c u t hd0 [] :=
 ⟨Int.le_refl _, ⟨by simp [dg, hd0], by simp [dg, hd0], by simp [dg, hd0], by simp [dg, hd0]⟩, fun _ => rfl, (fun h => by cases h), (fun i x h => by simp at h)⟩
theorem minv0 (c : Code) (u : Tab) : MInv c u mc0 :=
 ⟨hinv0 c u 0, hinv0 c u 1, ⟨by simp [dg, mc0], by simp [dg, mc0], by simp [dg, mc0]⟩, rfl, by simp [mc0]⟩
theorem HInv.open_eq {c : Code} {u : Tab} {t : Nat} {d : Hd} {h : List Call} (H : HInv c u t d h) : open_ t h = d.inn := by
 rw [Bool.eq_iff_iff]
 unfold open_
 rw [List.any_eq_true]
 constructor
 ·rintro ⟨x, hx, hp⟩
  obtain ⟨i, hi, rfl⟩ := List.mem_iff_getElem.1 hx
  simp only [Bool.and_eq_true, decide_eq_true_eq] at hp
  exact (H.uniq i _ (List.getElem?_eq_getElem hi) hp.1 hp.2).1
 ·intro hi
  obtain ⟨_, _, _, _, x, hx, h1, _, h2⟩ := H.busy hi
  exact ⟨x, List.mem_of_getElem? hx, by simp [h1, h2]⟩
theorem HInv.frame {c : Code} {u : Tab} {t : Nat} {d : Hd} {h h' : List Call} (H : HInv c u t d h) (hk : ∀ (i : Nat) (x : Call), h[i]? = some x → x.1 = t → h'[i]? = some x) (hn : ∀ (i : Nat) (x : Call), h'[i]? = some x → x.1 = t → h[i]? = some x) : HInv c u t d h' :=
 ⟨H.cl0, H.reg, H.idle, fun hi => by
  obtain ⟨h1, h2, h3, h4, x, hx, hxt, h5⟩ := H.busy hi
  exact ⟨h1, h2, h3, h4, x, hk _ x hx hxt, hxt, h5⟩, fun i x hx hxt hxo => H.uniq i x (hn i x hx hxt) hxt hxo⟩
structure Go1 (c : Code) (u : Tab) (t : Nat) (m : Mc) where
 w : List Int
 ls : List Ln4
 hu : u[t]? = some w
 hw : w[(m.hd t).cl.toNat]? = some (opOf u t (m.hd t).cl)
 op0 : 0 ≤ opOf u t (m.hd t).cl
 opc : opOf u t (m.hd t).cl < c.length
 hc : c[(opOf u t (m.hd t).cl).toNat]? = some ls
 call : okCall ls = true
 ln0 : 0 ≤ (m.hd t).ln
 lnl : (m.hd t).ln < ls.length
 hl : ls[(m.hd t).ln.toNat]? = some (stL c u t m)
 cl0 : 0 ≤ (m.hd t).cl
 cll : (m.hd t).cl < w.length
theorem getD_get {α : Type} {l : List α} {i : Nat} {a d : α} (h : l[i]? = some a) : l.getD i d = a := by simp [List.getD, h]
theorem vCode_call {c : Code} (hv : vCode c = true) {i : Nat} {ls : List Ln4} (h : c[i]? = some ls) : okCall ls = true := by
 simp only [vCode, Bool.and_eq_true, List.all_eq_true] at hv
 exact hv.2 ls (List.mem_of_getElem? h)
theorem go1 {c : Code} {u : Tab} {t : Nat} {m : Mc} (hv : vCode c = true) (hu : vUse c u = true) (hi : MInv c u m) (ht : hasM u t m = true) : t < 2 ∧ Nonempty (Go1 c u t m) := by
 simp only [hasM, Bool.and_eq_true, btw_true, decide_eq_true_eq, Int.toNat_natCast] at ht
 have hul : t < u.length := by omega
 simp only [vUse, Bool.and_eq_true, btw_true, List.all_eq_true] at hu
 have ht2 : t < 2 := by omega
 refine ⟨ht2, ?_⟩
 have hw0 : u[t]? = some u[t] := List.getElem?_eq_getElem hul
 have hgd : u.getD t [] = u[t] := getD_get hw0
 have H := hi.hd ht2
 rw [hgd] at ht
 have hcl : (m.hd t).cl.toNat < u[t].length := by have := H.cl0; omega
 have hop : u[t][(m.hd t).cl.toNat]? = some u[t][(m.hd t).cl.toNat] := List.getElem?_eq_getElem hcl
 have hopE : opOf u t (m.hd t).cl = u[t][(m.hd t).cl.toNat] := by unfold opOf; rw [hgd]; exact getD_get hop
 have hword := hu.2 u[t] (List.getElem_mem hul)
 simp only [okWord, Bool.and_eq_true, List.all_eq_true, btw_true] at hword
 have hb := hword.2 _ (List.getElem_mem hcl)
 rw [← hopE] at hb hop
 have hcl2 : (opOf u t (m.hd t).cl).toNat < c.length := by omega
 have hc0 : c[(opOf u t (m.hd t).cl).toNat]? = some c[(opOf u t (m.hd t).cl).toNat] := List.getElem?_eq_getElem hcl2
 have hcall := vCode_call hv hc0
 have hls : c.getD (opOf u t (m.hd t).cl).toNat [] = c[(opOf u t (m.hd t).cl).toNat] := getD_get hc0
 have hln : 0 ≤ (m.hd t).ln ∧ (m.hd t).ln < (c[(opOf u t (m.hd t).cl).toNat]).length := by
  cases hin : (m.hd t).inn with
  | true => obtain ⟨_, _, h3, h4, _⟩ := H.busy hin; rw [hls] at h4; exact ⟨h3, h4⟩
  | false =>
    rw [H.idle hin]
    simp only [okCall, Bool.and_eq_true, btw_true] at hcall
    omega
 have hl0 : (c[(opOf u t (m.hd t).cl).toNat])[(m.hd t).ln.toNat]? = some (c[(opOf u t (m.hd t).cl).toNat])[(m.hd t).ln.toNat] := List.getElem?_eq_getElem (by omega)
 have hlE : stL c u t m = (c[(opOf u t (m.hd t).cl).toNat])[(m.hd t).ln.toNat] := by unfold stL lnOf; rw [hls]; exact getD_get hl0
 exact ⟨⟨u[t], c[(opOf u t (m.hd t).cl).toNat], hw0, hop, hb.1, by omega, hc0, hcall, hln.1, hln.2, by rw [hlE]; exact hl0, H.cl0, by omega⟩⟩
theorem okCall_line {ls : List Ln4} (h : okCall ls = true) {i : Nat} {l : Ln4} (hl : ls[i]? = some l) : okLine l ls.length = true := by
 simp only [okCall, Bool.and_eq_true, List.all_eq_true] at h
 exact h.2.1 l (List.mem_of_getElem? hl)
theorem okCall_next {ls : List Ln4} (h : okCall ls = true) {i : Nat} {l : Ln4} (hl : ls[i]? = some l) (h7 : l.1 ≠ 7) : i + 1 < ls.length := by
 have hi := (List.getElem?_eq_some_iff.1 hl).1
 simp only [okCall, Bool.and_eq_true, endsGive] at h
 have h2 := h.2.2
 rcases Nat.lt_or_ge (i + 1) ls.length with hlt | hge
 ·exact hlt
 ·have : ls.length - 1 = i := by omega
  rw [this, hl] at h2
  simp at h2
  exact absurd h2 h7
end Go.Am

set_option maxRecDepth 100000
set_option linter.unusedVariables false
set_option linter.unusedSimpArgs false
namespace Go.Am
open Go
theorem pk_dg {z i v r : Int} (hv : dg v) (hr : dg r) : dg (pk z i v r) := by unfold pk; cases decide (z = i) <;> assumption
theorem tmod10 {a b : Int} (ha : dg a) (hb : dg b) : dg ((a + b).tmod 10) := by
 obtain ⟨a0, a1⟩ := ha; obtain ⟨b0, b1⟩ := hb
 rw [Int.tmod_eq_emod_of_nonneg (by omega)]
 constructor <;> omega
section
variable {l : Ln4} {m st cl ln r0 r1 r2 r3 at_ c0 c1 c2 : Int} {h : List Call}
theorem xLn_ne7 (hok : okLine l m = true) (h7 : l.1 ≠ 7) (d0 : dg r0) (d1 : dg r1) (d2 : dg r2) (d3 : dg r3) (e0 : dg c0) (e1 : dg c1) (e2 : dg c2) :
  (xLn l st cl ln r0 r1 r2 r3 at_ c0 c1 c2 h).1 = cl ∧ ((xLn l st cl ln r0 r1 r2 r3 at_ c0 c1 c2 h).2.1 = ln + 1 ∨ (0 ≤ (xLn l st cl ln r0 r1 r2 r3 at_ c0 c1 c2 h).2.1 ∧ (xLn l st cl ln r0 r1 r2 r3 at_ c0 c1 c2 h).2.1 < m)) ∧
   (dg (xLn l st cl ln r0 r1 r2 r3 at_ c0 c1 c2 h).2.2.1 ∧ dg (xLn l st cl ln r0 r1 r2 r3 at_ c0 c1 c2 h).2.2.2.1 ∧ dg (xLn l st cl ln r0 r1 r2 r3 at_ c0 c1 c2 h).2.2.2.2.1 ∧ dg (xLn l st cl ln r0 r1 r2 r3 at_ c0 c1 c2 h).2.2.2.2.2.1) ∧
   (dg (xLn l st cl ln r0 r1 r2 r3 at_ c0 c1 c2 h).2.2.2.2.2.2.1 ∧ dg (xLn l st cl ln r0 r1 r2 r3 at_ c0 c1 c2 h).2.2.2.2.2.2.2.1 ∧ dg (xLn l st cl ln r0 r1 r2 r3 at_ c0 c1 c2 h).2.2.2.2.2.2.2.2.1) ∧
   (xLn l st cl ln r0 r1 r2 r3 at_ c0 c1 c2 h).2.2.2.2.2.2.2.2.2 = h := by
 have k4 : ∀ i, dg (rg4 r0 r1 r2 r3 i) := fun i => rg4_dg d0 d1 d2 d3
 have k3 : ∀ i, dg (rg3 c0 c1 c2 i) := fun i => rg3_dg e0 e1 e2
 have z0 : dg 0 := by simp [dg]
 have z1 : dg 1 := by simp [dg]
 rcases okLine_do hok with ⟨h1, _⟩ | ⟨h1, _⟩ | ⟨h1, _⟩ | ⟨h1, _, hb⟩ | ⟨h1, _⟩ | ⟨h1, _, hb0, hb1⟩ | ⟨h1, _⟩
 ·unfold xLn; rw [if_pos h1]
  exact ⟨rfl, .inl rfl, ⟨pk_dg (k3 _) d0, pk_dg (k3 _) d1, pk_dg (k3 _) d2, pk_dg (k3 _) d3⟩, ⟨e0, e1, e2⟩, rfl⟩
 ·unfold xLn; rw [if_neg (by omega), if_pos h1]
  exact ⟨rfl, .inl rfl, ⟨d0, d1, d2, d3⟩, ⟨pk_dg (k4 _) e0, pk_dg (k4 _) e1, pk_dg (k4 _) e2⟩, rfl⟩
 ·unfold xLn; rw [if_neg (by omega), if_neg (by omega), if_pos h1]
  split
  ·exact ⟨rfl, .inl rfl, ⟨d0, d1, d2, z1⟩, ⟨pk_dg (k4 _) e0, pk_dg (k4 _) e1, pk_dg (k4 _) e2⟩, rfl⟩
  ·exact ⟨rfl, .inl rfl, ⟨d0, d1, d2, z0⟩, ⟨e0, e1, e2⟩, rfl⟩
 ·unfold xLn; rw [if_neg (by omega), if_neg (by omega), if_neg (by omega), if_pos h1]
  exact ⟨rfl, .inl rfl, ⟨pk_dg hb d0, pk_dg hb d1, pk_dg hb d2, pk_dg hb d3⟩, ⟨e0, e1, e2⟩, rfl⟩
 ·unfold xLn; rw [if_neg (by omega), if_neg (by omega), if_neg (by omega), if_neg (by omega), if_pos h1]
  have k5 := fun i j => tmod10 (k4 i) (k4 j)
  exact ⟨rfl, .inl rfl, ⟨pk_dg (k5 _ _) d0, pk_dg (k5 _ _) d1, pk_dg (k5 _ _) d2, pk_dg (k5 _ _) d3⟩, ⟨e0, e1, e2⟩, rfl⟩
 ·unfold xLn; rw [if_neg (by omega), if_neg (by omega), if_neg (by omega), if_neg (by omega), if_neg (by omega), if_pos h1]
  refine ⟨rfl, ?_, ⟨d0, d1, d2, d3⟩, ⟨e0, e1, e2⟩, rfl⟩
  show (if rg4 r0 r1 r2 r3 l.2.1 = 0 then l.2.2.1 else ln + 1) = ln + 1 ∨ _
  by_cases hq : rg4 r0 r1 r2 r3 l.2.1 = 0
  ·right; show 0 ≤ (if rg4 r0 r1 r2 r3 l.2.1 = 0 then l.2.2.1 else ln + 1) ∧ (if rg4 r0 r1 r2 r3 l.2.1 = 0 then l.2.2.1 else ln + 1) < m
   rw [if_pos hq]; exact ⟨hb0, hb1⟩
  ·left; rw [if_neg hq]
 ·exact absurd h1 h7
theorem xLn_7 (h7 : l.1 = 7) {x : Call} (hx : h[at_.toNat]? = some x) :
  xLn l st cl ln r0 r1 r2 r3 at_ c0 c1 c2 h = (cl + 1, 0, r0, r1, r2, r3, c0, c1, c2, h.set at_.toNat (x.1, x.2.1, x.2.2.1, rg4 r0 r1 r2 r3 l.2.1, x.2.2.2.2.1, 2 * st)) := by
 unfold xLn
 rw [if_neg (by omega), if_neg (by omega), if_neg (by omega), if_neg (by omega), if_neg (by omega), if_neg (by omega)]
 simp only [hx]
end
theorem mkd_len (mks : List Int) (op ln at_ st : Int) (mk : List Int) : (mkd mks op ln at_ st mk).length = mk.length := by
 unfold mkd; cases hasMk mks op ln <;> simp
section
variable {c : Code} {u : Tab} {t : Nat} {m : Mc}
structure BInv (c : Code) (u : Tab) (t : Nat) (m : Mc) : Prop where
 at0 : 0 ≤ (stB u t m).2.2.2.2.1
 here : ∃ x : Call, (stB u t m).2.2.2.2.2.1[(stB u t m).2.2.2.2.1.toNat]? = some x ∧ x.1 = t ∧ x.2.2.1 = opOf u t (m.hd t).cl ∧ x.2.2.2.2.2 = 0
 old : ∀ (i : Nat) (x : Call), m.h[i]? = some x → (stB u t m).2.2.2.2.2.1[i]? = some x
 new : ∀ (i : Nat) (x : Call), (stB u t m).2.2.2.2.2.1[i]? = some x → x.1 ≠ t → m.h[i]? = some x
 uniq : ∀ (i : Nat) (x : Call), (stB u t m).2.2.2.2.2.1[i]? = some x → x.1 = t → x.2.2.2.2.2 = 0 → (stB u t m).2.2.2.2.1 = i
 len : (stB u t m).2.2.2.2.2.2.length = (stB u t m).2.2.2.2.2.1.length
 le : (stB u t m).2.2.2.2.2.1.length ≤ m.h.length + 1
 reg : dg (stB u t m).1 ∧ dg (stB u t m).2.1 ∧ dg (stB u t m).2.2.1 ∧ dg (stB u t m).2.2.2.1
theorem binv (hi : MInv c u m) (ht : t < 2) : BInv c u t m := by
 have H := hi.hd ht
 cases hin : (m.hd t).inn with
 | true =>
   have e : stB u t m = ((m.hd t).r0, (m.hd t).r1, (m.hd t).r2, (m.hd t).r3, (m.hd t).at_, m.h, m.ms) := by unfold stB beg; rw [hin]; rfl
   obtain ⟨h1, _, _, _, x, hx, hx1, hx2, hx3⟩ := H.busy hin
   refine ⟨by rw [e]; exact h1, ⟨x, by rw [e]; exact hx, hx1, hx2, hx3⟩, fun i y hy => by rw [e]; exact hy, fun i y hy _ => by rw [e] at hy; exact hy, fun i y hy hy1 hy2 => ?_, by rw [e]; exact hi.ms, by rw [e]; exact Nat.le_succ _, by rw [e]; exact H.reg⟩
   rw [e] at hy ⊢
   exact (H.uniq i y hy hy1 hy2).2
 | false =>
   have e : stB u t m = (0, 1, 0, 0, (m.h.length : Int), m.h ++ [((t : Int), 0, opOf u t (m.hd t).cl, 0, 2 * m.st + 1, 0)], m.ms ++ [0]) := by unfold stB beg; rw [hin]; rfl
   refine ⟨by rw [e]; show (0 : Int) ≤ m.h.length; omega, ⟨_, by rw [e]; show (m.h ++ [((t : Int), 0, opOf u t (m.hd t).cl, 0, 2 * m.st + 1, 0)])[((m.h.length : Int)).toNat]? = _; simp; rfl, rfl, rfl, rfl⟩, fun i y hy => ?_, fun i y hy hne => ?_, fun i y hy hy1 hy2 => ?_, ?_, ?_, ?_⟩
   ·rw [e]; show (m.h ++ _)[i]? = _
    rw [List.getElem?_append_left (List.getElem?_eq_some_iff.1 hy).1]; exact hy
   ·rw [e] at hy
    replace hy : (m.h ++ [((t : Int), 0, opOf u t (m.hd t).cl, 0, 2 * m.st + 1, 0)])[i]? = some y := hy
    rcases Nat.lt_or_ge i m.h.length with hl | hl
    ·rw [List.getElem?_append_left hl] at hy; exact hy
    ·rw [List.getElem?_append_right hl] at hy
     have : i - m.h.length = 0 := by have := (List.getElem?_eq_some_iff.1 hy).1; simp at this; omega
     rw [this] at hy; simp at hy; subst hy; exact absurd rfl hne
   ·rw [e] at hy ⊢
    replace hy : (m.h ++ [((t : Int), 0, opOf u t (m.hd t).cl, 0, 2 * m.st + 1, 0)])[i]? = some y := hy
    show (m.h.length : Int) = i
    rcases Nat.lt_or_ge i m.h.length with hl | hl
    ·rw [List.getElem?_append_left hl] at hy
     have := (H.uniq i y hy hy1 hy2).1; rw [hin] at this; cases this
    ·have := (List.getElem?_eq_some_iff.1 hy).1; simp at this; omega
   ·rw [e]; simp [hi.ms]
   ·rw [e]; simp
   ·rw [e]; exact ⟨by simp [dg], by simp [dg], by simp [dg], by simp [dg]⟩
structure XInv (c : Code) (u : Tab) (t : Nat) (m : Mc) : Prop where
 old : ∀ (i : Nat) (x : Call), m.h[i]? = some x → x.1 ≠ t → (stX c u t m).2.2.2.2.2.2.2.2.2[i]? = some x
 new : ∀ (i : Nat) (x : Call), (stX c u t m).2.2.2.2.2.2.2.2.2[i]? = some x → x.1 ≠ t → m.h[i]? = some x
 len : (stX c u t m).2.2.2.2.2.2.2.2.2.length = (stB u t m).2.2.2.2.2.1.length
 cel : dg (stX c u t m).2.2.2.2.2.2.1 ∧ dg (stX c u t m).2.2.2.2.2.2.2.1 ∧ dg (stX c u t m).2.2.2.2.2.2.2.2.1
 me : HInv c u t (stH c u t m) (stX c u t m).2.2.2.2.2.2.2.2.2
theorem xinv (hi : MInv c u m) (ht : t < 2) (g : Go1 c u t m) : XInv c u t m := by
 have H := hi.hd ht
 have B := binv (u := u) hi ht
 have hst0 : 0 ≤ m.st := Int.le_trans (by omega) hi.st
 have hok := okCall_line g.call g.hl
 obtain ⟨x, hx, hx1, hx2, hx3⟩ := B.here
 have hgd : u.getD t [] = g.w := getD_get g.hu
 have hls : c.getD (opOf u t (m.hd t).cl).toNat [] = g.ls := getD_get g.hc
 obtain ⟨b0, b1, b2, b3⟩ := B.reg
 obtain ⟨e0, e1, e2⟩ := hi.cel
 by_cases h7 : (stL c u t m).1 = 7
 ·have e : stX c u t m = _ := xLn_7 (st := m.st + 1) (cl := (m.hd t).cl) (ln := (m.hd t).ln) (r0 := (stB u t m).1) (r1 := (stB u t m).2.1) (r2 := (stB u t m).2.2.1) (r3 := (stB u t m).2.2.2.1) (c0 := m.c0) (c1 := m.c1) (c2 := m.c2) h7 hx
  have hat : (stB u t m).2.2.2.2.1.toNat < (stB u t m).2.2.2.2.2.1.length := (List.getElem?_eq_some_iff.1 hx).1
  refine ⟨fun i y hy hne => ?_, fun i y hy hne => ?_, by rw [e]; simp, by rw [e]; exact ⟨e0, e1, e2⟩, ⟨?_, ?_, fun _ => ?_, fun hin => ?_, fun i y hy hy1 hy2 => ?_⟩⟩
  ·have h1 := B.old i y hy
   rw [e]; simp only
   rw [List.getElem?_set_ne]; exact h1
   intro he; rw [he] at hx; rw [hx] at h1; cases h1; exact hne hx1
  ·rw [e] at hy; simp only at hy
   by_cases he : (stB u t m).2.2.2.2.1.toNat = i
   ·subst he; rw [List.getElem?_set_self hat] at hy; cases hy; exact absurd hx1 hne
   ·rw [List.getElem?_set_ne he] at hy; exact B.new i y hy hne
  ·show 0 ≤ (stX c u t m).1; rw [e]; show 0 ≤ (m.hd t).cl + 1; have := H.cl0; omega
  ·show dg (stX c u t m).2.2.1 ∧ _; unfold stH; rw [e]; exact ⟨b0, b1, b2, b3⟩
  ·show (stX c u t m).2.1 = 0; rw [e]
  ·simp [stH, h7] at hin
  ·exfalso
   rw [e] at hy; simp only at hy
   by_cases he : (stB u t m).2.2.2.2.1.toNat = i
   ·subst he; rw [List.getElem?_set_self hat] at hy; cases hy; simp only at hy2; omega
   ·rw [List.getElem?_set_ne he] at hy
    have := B.uniq i y hy hy1 hy2; omega
 ·obtain ⟨q1, q2, q3, q4, q5⟩ := xLn_ne7 (st := m.st + 1) (cl := (m.hd t).cl) (ln := (m.hd t).ln) (at_ := (stB u t m).2.2.2.2.1) (h := (stB u t m).2.2.2.2.2.1) hok h7 b0 b1 b2 b3 e0 e1 e2
  have hX1 : (stX c u t m).1 = (m.hd t).cl := q1
  have hX5 : (stX c u t m).2.2.2.2.2.2.2.2.2 = (stB u t m).2.2.2.2.2.1 := q5
  have hnx := okCall_next g.call g.hl h7
  refine ⟨fun i y hy _ => by rw [hX5]; exact B.old i y hy, fun i y hy hne => by rw [hX5] at hy; exact B.new i y hy hne, by rw [hX5], q4, ⟨?_, q3, fun hin => ?_, fun _ => ?_, fun i y hy hy1 hy2 => ?_⟩⟩
  ·show 0 ≤ (stX c u t m).1; rw [hX1]; exact H.cl0
  ·simp [stH, h7] at hin
  ·refine ⟨B.at0, ?_, ?_, ?_, x, by rw [hX5]; exact hx, hx1, ?_, hx3⟩
   ·show (stX c u t m).1 < _; rw [hX1, hgd]; exact g.cll
   ·show 0 ≤ (stX c u t m).2.1
    rcases q2 with h | h
    ·have h' : (stX c u t m).2.1 = (m.hd t).ln + 1 := h
     rw [h']; have := g.ln0; omega
    ·exact h.1
   ·show (stX c u t m).2.1 < ((c.getD (opOf u t (stX c u t m).1).toNat []).length : Int)
    rw [hX1, hls]
    rcases q2 with h | h
    ·have h' : (stX c u t m).2.1 = (m.hd t).ln + 1 := h
     rw [h']; have := g.ln0; omega
    ·exact h.2
   ·show x.2.2.1 = opOf u t (stX c u t m).1; rw [hX1]; exact hx2
  ·rw [hX5] at hy
   exact ⟨by simp [stH, h7], B.uniq i y hy hy1 hy2⟩
theorem minv_step (mks : List Int) (hi : MInv c u m) (ht : t < 2) (g : Go1 c u t m) : MInv c u (stepM c u mks t m) := by
 have X := xinv hi ht g
 have B := binv (u := u) hi ht
 have hms : (stepM c u mks t m).ms.length = (stepM c u mks t m).h.length := by
  show (mkd _ _ _ _ _ _).length = _
  rw [mkd_len, B.len]; exact X.len.symm
 have hst : ((stepM c u mks t m).h.length : Int) ≤ (stepM c u mks t m).st := by
  show (((stX c u t m).2.2.2.2.2.2.2.2.2).length : Int) ≤ m.st + 1
  rw [X.len]; have := B.le; have := hi.st; omega
 match t, ht, X, hms, hst with
 | 0, _, X, hms, hst => exact ⟨X.me, hi.b.frame (fun i x h h1 => X.old i x h (by rw [h1]; decide)) (fun i x h h1 => X.new i x h (by rw [h1]; decide)), X.cel, hms, hst⟩
 | 1, _, X, hms, hst => exact ⟨hi.a.frame (fun i x h h1 => X.old i x h (by rw [h1]; decide)) (fun i x h h1 => X.new i x h (by rw [h1]; decide)), X.me, X.cel, hms, hst⟩
end
end Go.Am

set_option maxRecDepth 100000
set_option maxHeartbeats 1000000
set_option linter.unusedVariables false
set_option linter.unusedSimpArgs false
namespace Go.Am
open Go
section
variable {c : Code} {u : Tab} {m : Mc}
theorem Go1.small {t : Nat} (g : Go1 c u t m) (hu : vUse c u = true) : (m.hd t).cl ≤ 1000 ∧ (m.hd t).ln ≤ 1000 := by
 have h1 := g.lnl; have h2 := g.cll
 have h3 := g.call
 simp only [okCall, Bool.and_eq_true, btw_true] at h3
 simp only [vUse, Bool.and_eq_true, List.all_eq_true] at hu
 have h4 := hu.2 g.w (List.mem_of_getElem? g.hu)
 simp only [okWord, Bool.and_eq_true, decide_eq_true_eq] at h4
 omega
def MkOk (c : Code) (mks : List Int) : Prop := mks = [] ∨ mks.length = c.length
theorem MkOk.at {mks : List Int} (h : MkOk c mks) {t : Nat} (g : Go1 c u t m) : mks = [] ∨ (opOf u t (m.hd t).cl).toNat < mks.length := by
 rcases h with h | h
 ·exact .inl h
 ·right; rw [h]; have := g.op0; have := g.opc; omega
theorem C71_m (mks : List Int) (hmk : MkOk c mks) (hv : vCode c = true) (hu : vUse c u = true) (hi : MInv c u m) (hst : m.st ≤ 100) {t : Int} (ht : hasM u t m = true) :
  C71 Ar.std t (eInts mks) (eCode c) (eTab u) m.a.cl m.a.ln m.a.r0 m.a.r1 m.a.r2 m.a.r3 m.a.at_ m.b.cl m.b.ln m.b.r0 m.b.r1 m.b.r2 m.b.r3 m.b.at_ m.c0 m.c1 m.c2 m.st (eCalls m.h) (eInts m.ms) = some (eCode c, eTab u, (stepM c u mks t.toNat m).a.cl, (stepM c u mks t.toNat m).a.ln, (stepM c u mks t.toNat m).a.r0, (stepM c u mks t.toNat m).a.r1, (stepM c u mks t.toNat m).a.r2, (stepM c u mks t.toNat m).a.r3, (stepM c u mks t.toNat m).a.at_, (stepM c u mks t.toNat m).b.cl, (stepM c u mks t.toNat m).b.ln, (stepM c u mks t.toNat m).b.r0, (stepM c u mks t.toNat m).b.r1, (stepM c u mks t.toNat m).b.r2, (stepM c u mks t.toNat m).b.r3, (stepM c u mks t.toNat m).b.at_, (stepM c u mks t.toNat m).c0, (stepM c u mks t.toNat m).c1, (stepM c u mks t.toNat m).c2, (stepM c u mks t.toNat m).st, eCalls (stepM c u mks t.toNat m).h, eInts (stepM c u mks t.toNat m).ms) := by
 have h0 : 0 ≤ t := by simp only [hasM, Bool.and_eq_true, btw_true] at ht; omega
 obtain ⟨T, rfl⟩ := Int.eq_ofNat_of_zero_le h0
 obtain ⟨h2, ⟨g⟩⟩ := go1 hv hu hi ht
 obtain ⟨s1, s2⟩ := g.small hu
 have H := hi.hd h2
 have hs := hi.st
 have hmk' := hmk.at g
 rw [Int.toNat_natCast]
 have hat : (m.hd T).inn = true → 0 ≤ (m.hd T).at_ ∧ (m.hd T).at_ < m.h.length := by
  intro hin
  obtain ⟨q1, _, _, _, x, hx, _⟩ := H.busy hin
  have := (List.getElem?_eq_some_iff.1 hx).1
  exact ⟨q1, by omega⟩
 match T, h2, g, s1, s2, H, hmk', hat with
 | 0, _, g, s1, s2, H, hmk', hat =>
   exact C71_0 c u mks m.a.cl m.a.ln m.a.r0 m.a.r1 m.a.r2 m.a.r3 m.a.at_ m.b.cl m.b.ln m.b.r0 m.b.r1 m.b.r2 m.b.r3 m.b.at_ m.c0 m.c1 m.c2 m.st m.h m.ms m.a.inn (opOf u 0 m.a.cl) g.w g.ls (stL c u 0 m)
    g.hu ⟨g.cl0, s1⟩ g.hw g.op0 g.hc ⟨g.ln0, s2⟩ g.hl (okCall_line g.call g.hl) H.open_eq H.idle (by omega) hi.ms hat (by omega) hmk' H.reg.1 H.reg.2.1 H.reg.2.2.1 H.reg.2.2.2
 | 1, _, g, s1, s2, H, hmk', hat =>
   exact C71_1 c u mks m.b.cl m.b.ln m.b.r0 m.b.r1 m.b.r2 m.b.r3 m.b.at_ m.a.cl m.a.ln m.a.r0 m.a.r1 m.a.r2 m.a.r3 m.a.at_ m.c0 m.c1 m.c2 m.st m.h m.ms m.b.inn (opOf u 1 m.b.cl) g.w g.ls (stL c u 1 m)
    g.hu ⟨g.cl0, s1⟩ g.hw g.op0 g.hc ⟨g.ln0, s2⟩ g.hl (okCall_line g.call g.hl) H.open_eq H.idle (by omega) hi.ms hat (by omega) hmk' H.reg.1 H.reg.2.1 H.reg.2.2.1 H.reg.2.2.2
theorem C70_m (x2 : List D) (hul : u.length ≤ 2) (t : Int) : C70 Ar.std t x2 (eTab u) m.a.cl m.a.ln m.a.r0 m.a.r1 m.a.r2 m.a.r3 m.a.at_ m.b.cl m.b.ln m.b.r0 m.b.r1 m.b.r2 m.b.r3 m.b.at_ m.c0 m.c1 m.c2 m.st (eCalls m.h) (eInts m.ms) = some (hasM u t m) := by
 have hw : IntKind.i64.wrap ((u.length : Int) - 1) = u.length - 1 := wrapL (by show u.length < 9223372036854775808; omega)
 unfold C70
 refine bt (v := hasM u t m) ?_ rfl
 simp only [C47_eq, len_eTab, std_wrp, std_zsub, hw, bsome]
 cases hb : btw 0 t (u.length - 1) with
 | false => simp [hasM, hb]
 | true =>
   have hb' := (btw_true _ _ _).1 hb
   rw [cond_true]
   have hlt : t.toNat < u.length := by omega
   have hg : u[t.toNat]? = some u[t.toNat] := List.getElem?_eq_getElem hlt
   rcases (by omega : t = 0 ∨ t = 1) with rfl | rfl
   ·refine cnT rfl (bt (gt_eTabI (by decide) hg) ?_)
    simp only [hasM, hb, Bool.true_and, std_zlt, len_enc, getD_get hg]; rfl
   ·refine cnF rfl (cnT rfl (bt (gt_eTabI (by decide) hg) ?_))
    simp only [hasM, hb, Bool.true_and, std_zlt, len_enc, getD_get hg]; rfl
end
end Go.Am

set_option maxRecDepth 100000
set_option maxHeartbeats 1000000
set_option linter.unusedVariables false
set_option linter.unusedSimpArgs false
set_option linter.unusedSectionVars false
namespace Go.Am
open Go
def runS (c : Code) (u : Tab) (mks : List Int) : List Int → Mc → Mc × Bool
 | [], m => (m, true)
 | t :: r, m => bif hasM u t m then runS c u mks r (stepM c u mks t.toNat m) else (m, false)
def doneS (c : Code) (u : Tab) (sch mks : List Int) : Mc × Bool := bif decide (12 < sch.length) then (mc0, false) else runS c u mks sch mc0
theorem step_st (c : Code) (u : Tab) (mks : List Int) (t : Nat) (m : Mc) : (stepM c u mks t m).st = m.st + 1 := rfl
section
variable {c : Code} {u : Tab} (mks : List Int) (hmk : MkOk c mks) (hv : vCode c = true) (hu : vUse c u = true)
include hmk hv hu
theorem ulen : u.length ≤ 2 := by simp only [vUse, Bool.and_eq_true, btw_true] at hu; omega
theorem minv_next {m : Mc} (hi : MInv c u m) {t : Int} (ht : hasM u t m = true) : MInv c u (stepM c u mks t.toNat m) := by
 have h0 : 0 ≤ t := by simp only [hasM, Bool.and_eq_true, btw_true] at ht; omega
 obtain ⟨T, rfl⟩ := Int.eq_ofNat_of_zero_le h0
 obtain ⟨h2, ⟨g⟩⟩ := go1 hv hu hi ht
 rw [Int.toNat_natCast]; exact minv_step mks hi h2 g
theorem C104_eq (sch : List Int) (hl : sch.length < Lg) :
  C104 Ar.std (eCode c) (eTab u) (eInts sch) (eInts mks) = some (eCode c, eTab u, (doneS c u sch mks).1.a.cl, (doneS c u sch mks).1.a.ln, (doneS c u sch mks).1.a.r0, (doneS c u sch mks).1.a.r1, (doneS c u sch mks).1.a.r2, (doneS c u sch mks).1.a.r3, (doneS c u sch mks).1.a.at_, (doneS c u sch mks).1.b.cl, (doneS c u sch mks).1.b.ln, (doneS c u sch mks).1.b.r0, (doneS c u sch mks).1.b.r1, (doneS c u sch mks).1.b.r2, (doneS c u sch mks).1.b.r3, (doneS c u sch mks).1.b.at_, (doneS c u sch mks).1.c0, (doneS c u sch mks).1.c1, (doneS c u sch mks).1.c2, (doneS c u sch mks).1.st, eCalls (doneS c u sch mks).1.h, eInts (doneS c u sch mks).1.ms, (doneS c u sch mks).2) := by
 have hul := ulen mks hmk hv hu
 unfold C104 doneS
 refine bt (v := (eCode c, eTab u)) rfl ?_
 dsimp only
 by_cases h12 : 12 < sch.length
 ·have h12' : decide (12 < sch.length) = true := decide_eq_true h12
  rw [h12']
  exact cnT (by simp; omega) rfl
 ·have h12' : decide (12 < sch.length) = false := decide_eq_false h12
  rw [h12', cond_false]
  refine cnF (by simp; omega) ?_
  have e := iter_list (step := C104L0 Ar.std (eInts sch) (eInts mks)) sch (fun (m : Mc) (i : Nat) => ((i : Int), eCode c, eTab u, m.a.cl, m.a.ln, m.a.r0, m.a.r1, m.a.r2, m.a.r3, m.a.at_, m.b.cl, m.b.ln, m.b.r0, m.b.r1, m.b.r2, m.b.r3, m.b.at_, m.c0, m.c1, m.c2, m.st, eCalls m.h, eInts m.ms))
   (fun m t => bif hasM u t m then .inl (stepM c u mks t.toNat m) else .inr (.inr (eCode c, eTab u, m.a.cl, m.a.ln, m.a.r0, m.a.r1, m.a.r2, m.a.r3, m.a.at_, m.b.cl, m.b.ln, m.b.r0, m.b.r1, m.b.r2, m.b.r3, m.b.at_, m.c0, m.c1, m.c2, m.st, eCalls m.h, eInts m.ms, eCode c, eTab u, m.a.cl, m.a.ln, m.a.r0, m.a.r1, m.a.r2, m.a.r3, m.a.at_, m.b.cl, m.b.ln, m.b.r0, m.b.r1, m.b.r2, m.b.r3, m.b.at_, m.c0, m.c1, m.c2, m.st, eCalls m.h, eInts m.ms)))
   (fun m => .inl (eCode c, eTab u, m.a.cl, m.a.ln, m.a.r0, m.a.r1, m.a.r2, m.a.r3, m.a.at_, m.b.cl, m.b.ln, m.b.r0, m.b.r1, m.b.r2, m.b.r3, m.b.at_, m.c0, m.c1, m.c2, m.st, eCalls m.h, eInts m.ms)) (fun i m => MInv c u m ∧ m.st = i)
   (fun i t m hn hI => by
    have hi := (List.getElem?_eq_some_iff.1 hn).1
    obtain ⟨hI1, hI2⟩ := hI
    have h1 : Ar.std.zlt (i : Int) (Ar.std.len (eInts sch)) = true := by simp; omega
    cases ht : hasM u t m with
    | true =>
      refine .inl ⟨_, rfl, ⟨minv_next mks hmk hv hu hI1 ht, by rw [step_st, hI2]; rfl⟩, ?_⟩
      unfold C104L0
      refine cnT h1 (bt (gt_enc hn) (bt (C70_m _ hul t) (cnT ht (bt (C71_m mks hmk hv hu hI1 (by omega) ht) ?_))))
      simp only [std_wrp, std_zadd, wrap1 hi hl]
    | false =>
      refine .inr ⟨_, rfl, ?_⟩
      unfold C104L0
      exact cnT h1 (bt (gt_enc hn) (bt (C70_m _ hul t) (cnF ht rfl))))
   (fun m _ => by
    unfold C104L0
    exact cnF (by simp) rfl) mc0 ⟨minv0 c u, rfl⟩
  have e0 : iter (C104L0 Ar.std (eInts sch) (eInts mks)) (0, eCode c, eTab u, 0, 0, 0, 0, 0, 0, 0, 0, 0, 0, 0, 0, 0, 0, 0, 0, 0, 0, [], []) = _ := e
  refine bt e0 ?_
  have key : ∀ (l : List Int) (m : Mc), foldE (fun (m : Mc) t => bif hasM u t m then Sum.inl (stepM c u mks t.toNat m) else Sum.inr (Sum.inr (eCode c, eTab u, m.a.cl, m.a.ln, m.a.r0, m.a.r1, m.a.r2, m.a.r3, m.a.at_, m.b.cl, m.b.ln, m.b.r0, m.b.r1, m.b.r2, m.b.r3, m.b.at_, m.c0, m.c1, m.c2, m.st, eCalls m.h, eInts m.ms, eCode c, eTab u, m.a.cl, m.a.ln, m.a.r0, m.a.r1, m.a.r2, m.a.r3, m.a.at_, m.b.cl, m.b.ln, m.b.r0, m.b.r1, m.b.r2, m.b.r3, m.b.at_, m.c0, m.c1, m.c2, m.st, eCalls m.h, eInts m.ms)))
    (fun m => Sum.inl (eCode c, eTab u, m.a.cl, m.a.ln, m.a.r0, m.a.r1, m.a.r2, m.a.r3, m.a.at_, m.b.cl, m.b.ln, m.b.r0, m.b.r1, m.b.r2, m.b.r3, m.b.at_, m.c0, m.c1, m.c2, m.st, eCalls m.h, eInts m.ms)) l m = (bif (runS c u mks l m).2 then Sum.inl (eCode c, eTab u, (runS c u mks l m).1.a.cl, (runS c u mks l m).1.a.ln, (runS c u mks l m).1.a.r0, (runS c u mks l m).1.a.r1, (runS c u mks l m).1.a.r2, (runS c u mks l m).1.a.r3, (runS c u mks l m).1.a.at_, (runS c u mks l m).1.b.cl, (runS c u mks l m).1.b.ln, (runS c u mks l m).1.b.r0, (runS c u mks l m).1.b.r1, (runS c u mks l m).1.b.r2, (runS c u mks l m).1.b.r3, (runS c u mks l m).1.b.at_, (runS c u mks l m).1.c0, (runS c u mks l m).1.c1, (runS c u mks l m).1.c2, (runS c u mks l m).1.st, eCalls (runS c u mks l m).1.h, eInts (runS c u mks l m).1.ms) else Sum.inr (eCode c, eTab u, (runS c u mks l m).1.a.cl, (runS c u mks l m).1.a.ln, (runS c u mks l m).1.a.r0, (runS c u mks l m).1.a.r1, (runS c u mks l m).1.a.r2, (runS c u mks l m).1.a.r3, (runS c u mks l m).1.a.at_, (runS c u mks l m).1.b.cl, (runS c u mks l m).1.b.ln, (runS c u mks l m).1.b.r0, (runS c u mks l m).1.b.r1, (runS c u mks l m).1.b.r2, (runS c u mks l m).1.b.r3, (runS c u mks l m).1.b.at_, (runS c u mks l m).1.c0, (runS c u mks l m).1.c1, (runS c u mks l m).1.c2, (runS c u mks l m).1.st, eCalls (runS c u mks l m).1.h, eInts (runS c u mks l m).1.ms, eCode c, eTab u, (runS c u mks l m).1.a.cl, (runS c u mks l m).1.a.ln, (runS c u mks l m).1.a.r0, (runS c u mks l m).1.a.r1, (runS c u mks l m).1.a.r2, (runS c u mks l m).1.a.r3, (runS c u mks l m).1.a.at_, (runS c u mks l m).1.b.cl, (runS c u mks l m).1.b.ln, (runS c u mks l m).1.b.r0, (runS c u mks l m).1.b.r1, (runS c u mks l m).1.b.r2, (runS c u mks l m).1.b.r3, (runS c u mks l m).1.b.at_, (runS c u mks l m).1.c0, (runS c u mks l m).1.c1, (runS c u mks l m).1.c2, (runS c u mks l m).1.st, eCalls (runS c u mks l m).1.h, eInts (runS c u mks l m).1.ms)) := by
   intro l
   induction l with
   | nil => intro m; rfl
   | cons t r ih =>
     intro m
     rw [foldE_cons]
     unfold runS
     cases ht : hasM u t m with
     | true => exact ih _
     | false => rfl
  rw [key]
  cases (runS c u mks sch mc0).2 <;> rfl
end
end Go.Am

set_option maxRecDepth 100000
set_option maxHeartbeats 1000000
set_option linter.unusedVariables false
set_option linter.unusedSimpArgs false
set_option linter.unusedSectionVars false
namespace Go.Am
open Go
def longT (t : Tab) : Bool := t.any fun r => decide (20 < (r.length : Int))
def largeS (l : List Spec) : Bool := (l.any fun s => decide (20 < (s.2.2.1.length : Int)) || decide (20 < (s.2.2.2.length : Int)) || longT s.2.2.1 || longT s.2.2.2) || decide (5 < (l.length : Int))
theorem C41L0_eq (t : Tab) (ht : TabOk t) : iter (C41L0 Ar.std (eTab t)) 0 = some (bif longT t then .inr () else .inl ()) := by
 refine iter_any t _ _ _ (fun i r hr hi => ?_) ?_
 ·simp [C41L0, gt_eTab hr, hi, wrap1 hi ht.1]
 ·simp [C41L0]
theorem C41L1_eq (t : Tab) (ht : TabOk t) : iter (C41L1 Ar.std (eTab t)) 0 = some (bif longT t then .inr () else .inl ()) := C41L0_eq t ht
theorem C41_eq (l : List Spec) (hl : SpecsOk l) : C41 Ar.std (eSpecs l) = some (largeS l) := by
 have e : iter (C41L2 Ar.std (eSpecs l)) 0 = some (bif (l.any fun s => decide (20 < (s.2.2.1.length : Int)) || decide (20 < (s.2.2.2.length : Int)) || longT s.2.2.1 || longT s.2.2.2) then .inr () else .inl ()) := by
  refine iter_any l _ _ _ (fun i s hs hi => ?_) ?_
  ·obtain ⟨h1, h2⟩ := hl.2 s (List.mem_of_getElem? hs)
   simp only [C41L2, gt_eSpecs hs, bsome, C41L0_eq _ h1, C41L1_eq _ h2, std_zlt, len_eSpecs, len_eTab, ltC hi, cond_true, std_wrp, std_zadd, wrap1 hi hl.1]
   cases decide (20 < (s.2.2.1.length : Int)) <;> cases decide (20 < (s.2.2.2.length : Int)) <;> cases longT s.2.2.1 <;> cases longT s.2.2.2 <;> rfl
  ·simp [C41L2]
 unfold C41
 rw [e]
 simp only [largeS, bsome, std_zlt, len_eSpecs]
 cases l.any _ <;> rfl
def largeX (s : Spec) (c : Code) (u : Tab) : Bool :=
 (c.any fun l => decide (30 < (l.length : Int))) || ((u.any fun l => decide (20 < (l.length : Int))) || (largeS [s] || (decide (10 < (c.length : Int)) || decide (10 < (u.length : Int)))))
theorem C9_eq (s : Spec) (hs : TabOk s.2.2.1 ∧ TabOk s.2.2.2) (c : Code) (hc : CodeOk c) (u : Tab) (hu : TabOk u) : C9 Ar.std s.1 s.2.1 (eTab s.2.2.1) (eTab s.2.2.2) (eCode c) (eTab u) = some (largeX s c u) := by
 have e0 : iter (C9L0 Ar.std (eCode c)) 0 = some (bif (c.any fun l => decide (30 < (l.length : Int))) then .inr () else .inl ()) := by
  refine iter_any c _ _ _ (fun i r hr hi => ?_) ?_
  ·simp [C9L0, gt_eCode hr, hi, wrap1 hi hc.1]
  ·simp [C9L0]
 have e1 : iter (C9L1 Ar.std (eTab u)) 0 = some (bif (u.any fun l => decide (20 < (l.length : Int))) then .inr () else .inl ()) := by
  refine iter_any u _ _ _ (fun i r hr hi => ?_) ?_
  ·simp [C9L1, gt_eTab hr, hi, wrap1 hi hu.1]
  ·simp [C9L1]
 have e2 : C41 Ar.std [.agg [.int .i64 s.1, .int .i64 s.2.1, .list 1 (eTab s.2.2.1), .list 1 (eTab s.2.2.2)]] = some (largeS [s]) :=
  C41_eq [s] ⟨by show 1 < 9223372036854775808; decide, fun x hx => by rw [List.mem_singleton.1 hx]; exact hs⟩
 unfold C9 largeX
 rw [e0, bsome]
 cases c.any fun l => decide (30 < (l.length : Int)) with
 | true => rfl
 | false =>
   simp only [cond_false, Sum.elim_inl]
   rw [e1, bsome]
   cases u.any fun l => decide (20 < (l.length : Int)) with
   | true => rfl
   | false =>
     simp only [cond_false, Sum.elim_inl, e2, bsome, std_zlt, len_eCode, len_eTab]
     cases largeS [s] <;> cases decide (10 < (c.length : Int)) <;> rfl
theorem codeE_ok {c : Code} {u : Tab} (h : codeE c u = 0) : vCode c = true ∧ vUse c u = true := by
 unfold codeE at h
 cases h1 : vCode c <;> rw [h1] at h
 ·cases h
 ·cases h2 : vUse c u <;> rw [h2] at h
  ·cases h
  ·exact ⟨rfl, rfl⟩
def runOf {α : Type} (c : Code) (u : Tab) (sch : List Int) (f : Mc → α) (no : α) : α × Int :=
 bif decide (codeE c u = 0) then (bif (doneS c u sch []).2 then (f (doneS c u sch []).1, 0) else (no, 2)) else (no, codeE c u)
section
variable {c : Code} (hc : CodeOk c) {u : Tab} (hu : TabOk u) {sch : List Int} (hl : sch.length < Lg)
include hc hu hl
theorem C13_eq : C13 Ar.std (eCode c) (eTab u) (eInts sch) = some (eCalls (runOf c u sch Mc.h []).1, (runOf c u sch Mc.h []).2) := by
 have e : C44 Ar.std (eCode c) (eTab u) (eInts sch) [] = some (bif decide (codeE c u = 0) then (bif (doneS c u sch []).2 then .inl (eCalls (doneS c u sch []).1.h) else .inr 2) else .inr (codeE c u)) := by
  unfold C44
  refine bt (C89_eq c hc u hu) ?_
  by_cases h : codeE c u = 0
  ·obtain ⟨h1, h2⟩ := codeE_ok h
   rw [decide_eq_true h, cond_true]
   refine cnT (decide_eq_true h) (bt (C104_eq [] (.inl rfl) h1 h2 sch hl) ?_)
   dsimp only
   cases (doneS c u sch []).2 <;> rfl
  ·rw [decide_eq_false h, cond_false]
   exact cnF (decide_eq_false h) rfl
 unfold C13
 refine bt (v := ((runOf c u sch Mc.h []).2, eCalls (runOf c u sch Mc.h []).1)) (bt e ?_) rfl
 unfold runOf
 cases decide (codeE c u = 0) <;> cases (doneS c u sch []).2 <;> rfl
theorem C54_eq (l : List D) (h : l.length < 4294967296) : C54 Ar.std l = some l := by
 have e : ap Ar.std [] l = some l := by simpa using ap_std (l := []) (m := l) (by simpa using (by omega : (l.length : Int) < 4294967296))
 unfold C54
 cases l with
 | nil => exact cnF rfl (by rw [e]; exact both_self _)
 | cons x r => exact cnT (by simp <;> omega) (by rw [e]; rfl)
def leftM (u : Tab) (m : Mc) : List Int := ((List.range' 0 u.length).filter fun t : Nat => hasM u t m).map fun t : Nat => (t : Int)
omit hc hu hl in
theorem left_it {X : Type} {step : (List D × Int) → Option ((List D × Int) ⊕ X)} {n : Nat} (hn : n ≤ 2) (p : Nat → Bool) (x : List D → X)
  (hs : ∀ (i : Nat) (o : List Int), i < n → o.length ≤ i → step (eInts o, (i : Int)) = some (.inl (eInts (bif p i then o ++ [(i : Int)] else o), ((i + 1 : Nat) : Int)))) (he : ∀ o : List Int, step (eInts o, (n : Int)) = some (.inr (x (eInts o)))) :
  iter step ([], 0) = some (x (eInts (((List.range' 0 n).filter p).map fun t : Nat => (t : Int)))) := by
 have key : ∀ (k i : Nat) (o : List Int), i + k = n → o.length ≤ i → iter step (eInts o, (i : Int)) = some (x (eInts (o ++ ((List.range' i k).filter p).map fun t : Nat => (t : Int)))) := by
  intro k
  induction k with
  | zero => intro i o hi _; obtain rfl : i = n := by omega
            rw [iter_inr (he o)]; simp
  | succ k ih =>
    intro i o hi ho
    rw [iter_inl (hs i o (by omega) ho), ih (i + 1) _ (by omega) (by cases p i <;> simp <;> omega), List.range'_succ, List.filter_cons]
    cases p i <;> simp
 have := key n 0 [] (by omega) (by simp)
 simpa using this
end
theorem C17_same (h : List Call) (hl : h.length < Lg) : C17 Ar.std (eCalls h) (eCalls h) = some true := by
 unfold C17
 refine cnT (by simp) ?_
 have e : iter (C17L0 Ar.std (eCalls h) (eCalls h)) 0 = some (bif h.any (fun _ => false) then .inr () else .inl ()) := by
  refine iter_any h _ _ _ (fun i x hn hi => ?_) ?_
  ·obtain ⟨a, b, c, d, e, f⟩ := x
   unfold C17L0
   refine cnT (by simp; omega) (bt (gt_enc (c := cCall) hn) (bt (gt_enc (c := cCall) hn) (cnT (by simp) ?_)))
   simp only [std_wrp, std_zadd, wrap1 hi hl]; rfl
  ·unfold C17L0
   exact cnF (by simp) rfl
 rw [e, bsome, List.any_eq_false.2 (fun _ _ => by simp)]; rfl
def saneC : Code := [[(1, 0, 0, 0), (5, 2, 0, 1), (2, 0, 2, 0), (7, 0, 0, 0)]]
theorem saneR1 : (runOf saneC [[0], [0]] [0, 0, 1, 1, 0, 0, 1, 1] Mc.h []).1 = [((0, 0, 0, 0, 1, 12) : Int × Int × Int × Int × Int × Int), (1, 0, 0, 0, 5, 16)] := by decide +kernel
theorem saneR2 : (runOf saneC [[0], [0]] [0, 0, 1, 1, 0, 0, 1, 1] Mc.h []).2 = 0 := by decide +kernel
theorem C10_eq : C10 Ar.std = some true := by
 have e := C13_eq (c := saneC) (u := [[0], [0]]) (sch := [0, 0, 1, 1, 0, 0, 1, 1]) ⟨by show 1 < 9223372036854775808; decide, by decide +kernel⟩ ⟨by show 2 < 9223372036854775808; decide, by decide +kernel⟩ (by show 8 < 9223372036854775808; decide)
 rw [saneR1, saneR2] at e
 unfold C10
 refine bt (v := (eCalls [(0, 0, 0, 0, 1, 12), (1, 0, 0, 0, 5, 16)], 0)) e (bt (v := true) ?_ rfl)
 refine cnT rfl (cnT rfl (bt (gc_enc (c := cCall) (i := 0) rfl) (cnT (by simp) (bt (gc_enc (c := cCall) (i := 1) rfl) ?_))))
 simp
end Go.Am

set_option maxRecDepth 100000
set_option maxHeartbeats 1000000
set_option linter.unusedVariables false
set_option linter.unusedSimpArgs false
set_option linter.unusedSectionVars false
namespace Go.Am
open Go
def rowOk (ops lim : Int) (r : List Int) : Bool := decide ((r.length : Int) = ops) && r.all fun n => btw 0 n lim
def tabOk (st ops lim : Int) (t : Tab) : Bool := decide ((t.length : Int) = st) && t.all (rowOk ops lim)
def specOk (s : Spec) : Bool := btw 1 s.1 8 && (btw 1 s.2.1 4 && (tabOk s.1 s.2.1 (s.1 - 1) s.2.2.1 && tabOk s.1 s.2.1 5 s.2.2.2))
section
variable (a b : Int) (t u : List D) (lim : Int)
end
theorem C113_eq (a b : Int) (t u : List D) (lim : Int) (x : Tab) (hx : TabOk x) : C113 Ar.std a b t u (eTab x) lim = some (tabOk a b (lim - 1) x) := by
 have e0 : ∀ r : List Int, r.length < Lg → iter (C113L0 Ar.std lim (eInts r)) 0 = some (bif (r.any fun n => !btw 0 n (lim - 1)) then .inr () else .inl ()) := by
  intro r hr
  refine iter_any r _ _ _ (fun i n hn hi => ?_) ?_
  ·have : (decide (n < 0) || decide (lim ≤ n)) = !btw 0 n (lim - 1) := by
    rw [Bool.eq_iff_iff]; simp [btw]; omega
   simp [C113L0, gt_enc hn, hi, wrap1 hi hr, this]
  ·simp [C113L0]
 have e : iter (C113L1 Ar.std b (eTab x) lim) 0 = some (bif (x.any fun r => !rowOk b (lim - 1) r) then .inr () else .inl ()) := by
  refine iter_any x _ _ _ (fun i r hn hi => ?_) ?_
  ·simp only [C113L1, std_zlt, len_eTab, ltC hi, cond_true, gt_eTab hn, bsome, e0 r (hx.2 r (List.mem_of_getElem? hn)), std_zeq, len_enc, std_wrp, std_zadd, wrap1 hi hx.1, rowOk]
   cases decide ((r.length : Int) = b) <;> simp [any_notB]
  ·simp [C113L1]
 simp only [C113, e, bsome, std_zeq, len_eTab, tabOk]
 cases decide ((x.length : Int) = a) <;> simp [any_notB]
theorem C58_eq (s : Spec) (h1 : TabOk s.2.2.1) (h2 : TabOk s.2.2.2) : C58 Ar.std s.1 s.2.1 (eTab s.2.2.1) (eTab s.2.2.2) = some (specOk s) := by
 simp only [C58, C113_eq _ _ _ _ _ _ h1, C113_eq _ _ _ _ _ _ h2, bsome, std_zle, cond_some, specOk, btw]
 cases decide (1 ≤ s.1) <;> cases decide (s.1 ≤ 8) <;> cases decide (1 ≤ s.2.1) <;> cases decide (s.2.1 ≤ 4) <;> simp
end Go.Am

set_option maxRecDepth 100000
set_option maxHeartbeats 1000000
set_option linter.unusedVariables false
set_option linter.unusedSimpArgs false
set_option linter.unusedSectionVars false
namespace Go.Am
open Go
structure SInv (w : List Int) (m : Mc) : Prop where
 len : (m.h.length : Int) = m.a.cl + (bif m.a.inn then 1 else 0)
 op : ∀ (i : Nat) (x : Call), m.h[i]? = some x → x.1 = 0 ∧ w[i]? = some x.2.2.1
 cl : m.a.cl ≤ w.length
section
variable {c : Code} {w : List Int} {m : Mc}
variable (hv : vCode c = true) (hu : vUse c [w] = true)
include hv hu
end
end Go.Am

set_option maxRecDepth 100000
set_option maxHeartbeats 1000000
set_option linter.unusedVariables false
set_option linter.unusedSimpArgs false
set_option linter.unusedSectionVars false
namespace Go.Am
open Go
section
variable {s : Spec} (hok : specOk s = true)
include hok
end
end Go.Am

set_option maxRecDepth 100000
set_option maxHeartbeats 1000000
set_option linter.unusedVariables false
set_option linter.unusedSimpArgs false
set_option linter.unusedSectionVars false
namespace Go.Am
open Go
section
variable {s : Spec} (hs : TabOk s.2.2.1 ∧ TabOk s.2.2.2) {c : Code} (hc : CodeOk c) {w : List Int} (hw : w.length < Lg)
include hs hc hw
end
theorem C31_same (c : Code) (hc : CodeOk c) : C31 Ar.std (eCode c) (eCode c) = some true := by
 have e0 : ∀ l : List Ln4, l.length < Lg → iter (C31L0 Ar.std (eLns l) (eLns l)) 0 = some (bif l.any (fun _ => false) then .inr () else .inl ()) := by
  intro l hl
  refine iter_any l _ _ _ (fun i x hn hi => ?_) ?_
  ·obtain ⟨a, b, d, e⟩ := x
   unfold C31L0
   refine cnT (by simp; omega) (bt (gt_enc (c := cLn) hn) (bt (gt_enc (c := cLn) hn) (cnT (by simp) ?_)))
   simp only [std_wrp, std_zadd, wrap1 hi hl]; rfl
  ·unfold C31L0
   exact cnF (by simp) rfl
 have e : iter (C31L1 Ar.std (eCode c) (eCode c)) 0 = some (bif c.any (fun _ => false) then .inr () else .inl ()) := by
  refine iter_any c _ _ _ (fun i l hn hi => ?_) ?_
  ·unfold C31L1
   refine cnT (by simp; omega) (bt (gt_eCode hn) (bt (gt_eCode hn) (cnT (by simp) (bt (e0 l (hc.2 l (List.mem_of_getElem? hn))) ?_))))
   rw [List.any_eq_false.2 (fun _ _ => by simp)]
   simp only [cond_false, Sum.elim_inl, std_wrp, std_zadd, wrap1 hi hc.1]
  ·unfold C31L1
   exact cnF (by simp) rfl
 unfold C31
 refine cnT (by simp) (bt e ?_)
 rw [List.any_eq_false.2 (fun _ _ => by simp)]; rfl
end Go.Am

set_option maxRecDepth 100000
set_option linter.unusedVariables false
set_option linter.unusedSimpArgs false
set_option linter.unusedSectionVars false
namespace Go.Am
open Go
def bef (c d : Call) : Bool := decide (c.to ≠ 0) && decide (c.to < d.fr)
def over (c d : Call) : Bool := decide (c.th = d.th) && (!bef c d && !bef d c)
section
variable {h : List Call}
theorem scalCalls (h : List Call) : scalars (eCalls h) = true := by
 simp only [scalars, eCalls, enc, List.all_map, List.all_eq_true]
 intro c _
 rfl
def cutC (m : Int) (c : Call) : Call := bif decide (m < c.to) then (c.1, c.2.1, c.2.2.1, 0, c.2.2.2.2.1, 0) else c
def untH (h : List Call) (m : Int) : List Call := (h.filter fun c => decide (c.fr ≤ m)).map (cutC m)
def midL {α : Type} (f : α → α) (l : List α) (i : Nat) : List α := (l.take i).map f ++ l.drop i
theorem midL_get {α : Type} (f : α → α) {l : List α} {i : Nat} {a : α} (h : l[i]? = some a) : (midL f l i)[i]? = some a := by
 have hi : i < l.length := by rw [List.getElem?_eq_some_iff] at h; exact h.1
 unfold midL
 rw [List.getElem?_append_right (by simp; omega)]
 have : i - ((l.take i).map f).length = 0 := by simp; omega
 rw [this, List.getElem?_drop]; simpa using h
theorem midL_step {α : Type} (f : α → α) {l : List α} {i : Nat} {a : α} (h : l[i]? = some a) : midL f l (i + 1) = (l.take i).map f ++ f a :: l.drop (i + 1) := by
 unfold midL
 rw [take_succ_get h, List.map_append]; simp
theorem midL_drop {α : Type} (f : α → α) {l : List α} {i : Nat} {a : α} (h : l[i]? = some a) : midL f l i = (l.take i).map f ++ a :: l.drop (i + 1) := by
 have hi : i < l.length := by rw [List.getElem?_eq_some_iff] at h; exact h.1
 have ha : l[i] = a := by rw [List.getElem?_eq_some_iff] at h; exact h.2
 unfold midL
 rw [List.drop_eq_getElem_cons hi, ha]
theorem midL_set {α : Type} (f : α → α) {l : List α} {i : Nat} {a : α} (h : l[i]? = some a) (b : α) : (midL f l i).set i b = (l.take i).map f ++ b :: l.drop (i + 1) := by
 have hi : i < l.length := by rw [List.getElem?_eq_some_iff] at h; exact h.1
 rw [midL_drop f h, List.set_append_right _ _ (by simp; omega)]
 have : i - ((l.take i).map f).length = 0 := by simp; omega
 rw [this]; rfl
theorem midL_zero {α : Type} (f : α → α) (l : List α) : midL f l 0 = l := by simp [midL]
theorem midL_end {α : Type} (f : α → α) (l : List α) : midL f l l.length = l.map f := by simp [midL]
end
end Go.Am

set_option maxRecDepth 100000
set_option maxHeartbeats 1000000
set_option linter.unusedVariables false
set_option linter.unusedSimpArgs false
set_option linter.unusedSectionVars false
namespace Go.Am
open Go
theorem set_self {α : Type} {l : List α} {i : Nat} {x : α} (h : l[i]? = some x) : l.set i x = l := by
 refine List.ext_getElem? fun j => ?_
 by_cases he : i = j
 ·subst he; rw [List.getElem?_set_self (List.getElem?_eq_some_iff.1 h).1, h]
 ·rw [List.getElem?_set_ne he]
theorem setLn (l : List Ln4) (i : Nat) (x y z u : Int) : Ar.std.lset (eLns l) i (.agg [(.int .i64 x), (.int .i64 y), (.int .i64 z), (.int .i64 u)]) = eLns (l.set i (x, y, z, u)) := enc_set (c := cLn) l i (x, y, z, u)
def swp (a b x : Int) : Int := bif decide (x = a) then b else bif decide (x = b) then a else x
def swL (a b : Int) (l : Ln4) : Ln4 := bif decide (l.1 = 1) then (l.1, l.2.1, swp a b l.2.2.1, l.2.2.2) else bif (decide (l.1 = 2) || decide (l.1 = 3)) then (l.1, swp a b l.2.1, l.2.2.1, l.2.2.2) else l
theorem C80_eq (a b : Int) (l : List Ln4) (i : Nat) (x : Ln4) (h : l[i]? = some x) : C80 Ar.std (Ar.std.zadd 0 (i : Int)) a b (eLns l) = some (eLns (l.set i (x.1, x.2.1, swp a b x.2.2.1, x.2.2.2))) := by
 obtain ⟨x1, x2, x3, x4⟩ := x
 have e3 : Ar.std.nat (Ar.std.zadd 0 (i : Int)) = i := by simp
 unfold C80
 rw [e3]
 refine bt (gc_enc (c := cLn) h) ?_
 dsimp only
 rw [setLn, setLn]
 simp only [std_zeq, swp]
 cases decide (x3 = a) with
 | true => rfl
 | false =>
   cases decide (x3 = b) with
   | true => rfl
   | false => simp only [cond_false, bsome]; rw [set_self h]
theorem C80a_eq (a b : Int) (l : List Ln4) (i : Nat) (x : Ln4) (h : l[i]? = some x) : C80a Ar.std (Ar.std.zadd 0 (i : Int)) a b (eLns l) = some (eLns (l.set i (x.1, swp a b x.2.1, x.2.2.1, x.2.2.2))) := by
 obtain ⟨x1, x2, x3, x4⟩ := x
 have e3 : Ar.std.nat (Ar.std.zadd 0 (i : Int)) = i := by simp
 unfold C80a
 rw [e3]
 refine bt (gc_enc (c := cLn) h) ?_
 dsimp only
 rw [setLn, setLn]
 simp only [std_zeq, swp]
 cases decide (x2 = a) with
 | true => rfl
 | false =>
   cases decide (x2 = b) with
   | true => rfl
   | false => simp only [cond_false, bsome]; rw [set_self h]
theorem midL_next {f : Ln4 → Ln4} {l : List Ln4} {i : Nat} {x : Ln4} (h : l[i]? = some x) : (midL f l i).set i (f x) = midL f l (i + 1) := by
 rw [midL_set _ h, midL_step _ h]
section
variable (a b : Int) {l : List Ln4} (hl : l.length < Lg)
include hl
theorem C29L0_it : iter (C29L0 Ar.std a b (eLns l)) (0, eLns l) = some (eLns (l.map (swL a b))) := by
 have key := iter_to (step := C29L0 Ar.std a b (eLns l)) l.length (fun i => ((i : Int), eLns (midL (swL a b) l i))) (eLns (midL (swL a b) l l.length)) (fun i hi => by
  have hc := List.getElem?_eq_getElem hi
  generalize l[i] = x at hc
  have hm := midL_get (swL a b) hc
  have hz : Ar.std.zlt (i : Int) (Ar.std.len (eLns l)) = true := by simp; omega
  have e3 : Ar.std.nat (Ar.std.zadd 0 (i : Int)) = i := by simp
  have hnx := midL_next (f := swL a b) hc
  obtain ⟨x1, x2, x3, x4⟩ := x
  unfold C29L0
  dsimp only
  refine cnT hz (bt (ck_of (by simp)) (bt (ck_of hz) ?_))
  rw [e3]
  refine bt (gc_enc (c := cLn) hm) (bt (v := eLns (midL (swL a b) l (i + 1))) ?_ (by simp only [std_wrp, std_zadd, wrap1 hi hl]))
  dsimp only
  rw [← hnx]
  by_cases h1 : x1 = 1
  ·refine cnT (decide_eq_true h1) (bt (C80_eq a b _ i _ hm) ?_)
   have e : swL a b (x1, x2, x3, x4) = (x1, x2, swp a b x3, x4) := by unfold swL; rw [decide_eq_true h1]; rfl
   rw [e]
  ·refine cnF (decide_eq_false h1) (bt (v := decide (x1 = 2) || decide (x1 = 3)) (by simp only [std_zeq]; cases decide (x1 = 2) <;> rfl) ?_)
   cases hq : decide (x1 = 2) || decide (x1 = 3) with
   | true =>
     have e : swL a b (x1, x2, x3, x4) = (x1, swp a b x2, x3, x4) := by unfold swL; rw [decide_eq_false h1, hq]; rfl
     rw [e]
     exact bt (cnT rfl (bt (C80a_eq a b _ i _ hm) rfl)) rfl
   | false =>
     have e : swL a b (x1, x2, x3, x4) = (x1, x2, x3, x4) := by unfold swL; rw [decide_eq_false h1, hq]; rfl
     rw [e, set_self hm]
     exact bt (cnF rfl rfl) rfl)
  (by unfold C29L0; exact cnF (by simp) rfl)
 rw [midL_end] at key
 have h0 : midL (swL a b) l 0 = l := midL_zero _ _
 simp only [h0] at key
 exact key
end
theorem scalLns (l : List Ln4) : scalars (eLns l) = true := by
 simp only [scalars, eLns, enc, List.all_map, List.all_eq_true]
 intro c _
 rfl
theorem fzLn (l : List Ln4) (n : Int) (hn : n = (l.length : Int)) : fz Ar.std (eLns l) 0 n = some (eLns l) := by
 subst hn
 have : (eLns l).take l.length = eLns l := by rw [List.take_of_length_le (by simp)]
 simp [fz, this]
theorem C81_eq (l : List D) (h : l.length < 4294967296) : C81 Ar.std l = some l := by
 have e : ap Ar.std [] l = some l := by simpa using ap_std (l := []) (m := l) (by simpa using (by omega : (l.length : Int) < 4294967296))
 unfold C81
 cases l with
 | nil => exact cnF rfl (by rw [e]; exact both_self _)
 | cons x r => exact cnT (by simp <;> omega) (by rw [e]; rfl)
def swC (a b : Int) (c : Code) : Code := c.map fun l => l.map (swL a b)
def swR (c : Code) (a b : Int) : Code × Int := bif vCode c then (bif isCel a && isCel b then (swC a b c, 0) else ([], 2)) else ([], 80)
theorem eCode_snoc (c : Code) (l : List Ln4) : eCode (c ++ [l]) = eCode c ++ [.list 4 (eLns l)] := by
 unfold eCode; simp [enc, cL]
section
variable {c : Code} (hc : CodeOk c) (hv : vCode c = true) (a b : Int)
include hc hv
theorem line8 {i : Nat} {l : List Ln4} (h : c[i]? = some l) : 1 ≤ l.length ∧ l.length ≤ 8 := by
 have := vCode_call hv h
 simp only [okCall, Bool.and_eq_true, btw_true] at this
 omega
theorem c4 : c.length ≤ 4 := by simp only [vCode, Bool.and_eq_true, btw_true] at hv; omega
theorem sw_it {step : (List D × Int) → Option ((List D × Int) ⊕ List D)}
  (hs : ∀ (i : Nat) (l : List Ln4) (o : Code), c[i]? = some l → i < c.length → o.length ≤ 4 → step (eCode o, (i : Int)) = some (.inl (eCode (o ++ [l.map (swL a b)]), ((i + 1 : Nat) : Int))))
  (he : ∀ o : Code, step (eCode o, (c.length : Int)) = some (.inr (eCode o))) : iter step ([], 0) = some (eCode (swC a b c)) := by
 have h4 := c4 hc hv
 have := iter_pre (step := step) c (fun pre => swC a b pre) (fun o i => (eCode o, (i : Int))) (fun o => eCode o)
  (fun i l hl hi => by
   rw [hs i l _ hl hi (by unfold swC; simp; omega)]
   unfold swC; simp) (he _)
 exact this
theorem C29_it : iter (C29L1 Ar.std (eCode c) a b) ([], 0) = some (eCode (swC a b c)) := by
 refine sw_it hc hv a b (fun i l o hl hi ho => ?_) (fun o => ?_)
 ·obtain ⟨l1, l8⟩ := line8 hc hv hl
  have hlg := hc.2 l (List.mem_of_getElem? hl)
  have hap : ap Ar.std (eCode o) [.list 4 (eLns (l.map (swL a b)))] = some (eCode (o ++ [l.map (swL a b)])) := by
   rw [eCode_snoc]
   simpa using ap_std (l := eCode o) (m := [.list 4 (eLns (l.map (swL a b)))]) (by simp; omega)
  unfold C29L1
  refine cnT (by simp; omega) (bt (gt_eCode hl) (bt (C81_eq _ (by simp; omega)) (cnT (by simp; omega) (bt (by rw [scalLns]; rfl) (bt (C29L0_it a b hlg) (bt (fzLn _ _ (by simp)) (bt hap ?_)))))))
  simp only [std_wrp, std_zadd, wrap1 hi hc.1]
 ·unfold C29L1
  exact cnF (by simp) rfl
end
theorem C29_eq {c : Code} (hc : CodeOk c) (a b : Int) : C29 Ar.std (eCode c) a b = some (eCode (swR c a b).1, (swR c a b).2) := by
 unfold C29 swR
 refine bt (C15_eq c hc) ?_
 cases hv : vCode c with
 | false => rfl
 | true =>
   refine cnT rfl (bt (v := !(isCel a && isCel b)) (bt (C79_eq a) ?_) ?_)
   ·cases isCel a with
    | false => rfl
    | true => exact cnT rfl (bt (C79_eq b) rfl)
   ·cases isCel a && isCel b with
    | false => rfl
    | true => exact cnF rfl (bt (C29_it hc hv a b) rfl)
theorem swR_ok {c : Code} (hc : CodeOk c) (a b : Int) : CodeOk (swR c a b).1 := by
 have z : CodeOk [] := ⟨by show 0 < 9223372036854775808; decide, fun r hr => by cases hr⟩
 unfold swR
 cases vCode c with
 | false => exact z
 | true =>
   cases isCel a && isCel b with
   | false => exact z
   | true =>
     refine ⟨by show (swC a b c).length < _; unfold swC; rw [List.length_map]; exact hc.1, fun r hr => ?_⟩
     replace hr : r ∈ c.map fun l => l.map (swL a b) := hr
     rw [List.mem_map] at hr
     obtain ⟨l, hl, rfl⟩ := hr
     rw [List.length_map]; exact hc.2 l hl
end Go.Am
