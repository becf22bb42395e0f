/- Own text: CL26. -/
import Derived.Test.YtkjeamngjnfpkaaCL20
import Derived.Test.YtkjeamngjnfpkaaGenp0
set_option maxRecDepth 100000
set_option maxHeartbeats 2000000
set_option linter.unusedVariables false
set_option linter.unusedSimpArgs false
set_option linter.unusedSectionVars false
namespace Go.Am
open Go
noncomputable def gL {X : Type} (A : Ar) (x1 : List D) (x2 : List D) (x3 : Int) (x4 : Int) (x5 : Int) (x6 : Int) (x7 : Int) (x8 : Int) (x9 : Int) (x10 : Int) (x11 : Int) (x12 : Int) (x13 : Int) (x14 : Int) (x15 : Int) (x16 : Int) (x17 : Int) (x18 : Int) (x19 : Int) (x20 : Int) (x21 : List D) (x22 : List D) (x23 : Int) (x24 : List D) (x25 : List D) (r28 : List D) (slf : List D → List D → Int → Int → Int → Int → Int → Int → Int → Int → Int → Int → Int → Int → Int → Int → Int → Int → Int → Int → List D → List D → Int → List D → List D → X → (Option (Bool × X))) : (Int × X) → Option ((Int × X) ⊕ ((X) ⊕ (X × List D × List D × Int × Int × Int × Int × Int × Int × Int × Int × Int × Int × Int × Int × Int × Int × Int × Int × Int × Int × List D × List D))) := fun (v102, v103) =>
 bif (A.zlt v102 (A.len r28)) then
  (gt A (cI .i64) r28 v102).bind fun a105 =>
  (C124 A x1 x2 x3 x4 x5 x6 x7 x8 x9 x10 x11 x12 x13 x14 x15 x16 x17 x18 x19 x20 x21 x22).bind fun (r110, r111, r112, r113, r114, r115, r116, r117, r118, r119, r120, r121, r122, r123, r124, r125, r126, r127, r128, r129, r130, r131) =>
  (C71 A a105 x24 r110 r111 r112 r113 r114 r115 r116 r117 r118 r119 r120 r121 r122 r123 r124 r125 r126 r127 r128 r129 r130 r131).bind fun (r133, r134, r135, r136, r137, r138, r139, r140, r141, r142, r143, r144, r145, r146, r147, r148, r149, r150, r151, r152, r153, r154) =>
  (sl A x25 0 (A.len x25)).bind fun l155 =>
  (ck (A.zeq (A.len x25) (A.len x25))).bind fun _ =>
  (ap A l155 [(.int .i64 a105)]).bind fun l163 =>
  (slf r133 r134 r135 r136 r137 r138 r139 r140 r141 r142 r143 r144 r145 r146 r147 r148 r149 r150 r151 r152 r153 r154 x23 x24 l163 v103).bind fun (r168, r169) =>
  bif r168 then
   some (.inl ((A.wrp .i64 (A.zadd v102 1)), r169))
  else
   some (.inr (.inr (r169, r133, r134, r135, r136, r137, r138, r139, r140, r141, r142, r143, r144, r145, r146, r147, r148, r149, r150, r151, r152, r153, r154)))
 else
  some (.inr (.inl v103))
noncomputable def gB {X : Type} (A : Ar) (vis : List D → List D → Int → Int → Int → Int → Int → Int → Int → Int → Int → Int → Int → Int → Int → Int → Int → Int → Int → Int → List D → List D → List D → X → Option X) (slf : List D → List D → Int → Int → Int → Int → Int → Int → Int → Int → Int → Int → Int → Int → Int → Int → Int → Int → Int → Int → List D → List D → Int → List D → List D → X → (Option (Bool × X))) (x1 : List D) (x2 : List D) (x3 : Int) (x4 : Int) (x5 : Int) (x6 : Int) (x7 : Int) (x8 : Int) (x9 : Int) (x10 : Int) (x11 : Int) (x12 : Int) (x13 : Int) (x14 : Int) (x15 : Int) (x16 : Int) (x17 : Int) (x18 : Int) (x19 : Int) (x20 : Int) (x21 : List D) (x22 : List D) (x23 : Int) (x24 : List D) (x25 : List D) (x26 : X) : Option (Bool × X) :=
 (C56a A x1 x2 x3 x4 x5 x6 x7 x8 x9 x10 x11 x12 x13 x14 x15 x16 x17 x18 x19 x20 x21 x22).bind fun r28 =>
 ((
  bif (A.zeq (A.len r28) 0) then
   some true
  else
   some (A.zeq x20 x23) : Option (Bool))).bind fun v30 =>
 bif v30 then
  (vis x1 x2 x3 x4 x5 x6 x7 x8 x9 x10 x11 x12 x13 x14 x15 x16 x17 x18 x19 x20 x21 x22 x25 x26).bind fun r34 =>
  some (true, r34)
 else
  (iter (gL A x1 x2 x3 x4 x5 x6 x7 x8 x9 x10 x11 x12 x13 x14 x15 x16 x17 x18 x19 x20 x21 x22 x23 x24 x25 r28 slf) (0, x26)).bind (Sum.elim (fun v171 =>
   some (true, v171)) (fun (v172, v173, v174, v175, v176, v177, v178, v179, v180, v181, v182, v183, v184, v185, v186, v187, v188, v189, v190, v191, v192, v193, v194) =>
   some (false, v172)))
abbrev CellF (Z : Type) := List D → List D → Int → Int → Int → Int → Int → Int → Int → Int → Int → Int → Int → Int → Int → Int → Int → Int → Int → Int → List D → List D → Z
abbrev appM {Z : Type} (F : CellF Z) (c : Code) (u : Tab) (m : Mc) : Z :=
 F (eCode c) (eTab u) m.a.cl m.a.ln m.a.r0 m.a.r1 m.a.r2 m.a.r3 m.a.at_ m.b.cl m.b.ln m.b.r0 m.b.r1 m.b.r2 m.b.r3 m.b.at_ m.c0 m.c1 m.c2 m.st (eCalls m.h) (eInts m.ms)
theorem C56a_eq {u : Tab} (x1 : List D) (m : Mc) (h2 : u.length ≤ 2) : C56a Ar.std x1 (eTab u) m.a.cl m.a.ln m.a.r0 m.a.r1 m.a.r2 m.a.r3 m.a.at_ m.b.cl m.b.ln m.b.r0 m.b.r1 m.b.r2 m.b.r3 m.b.at_ m.c0 m.c1 m.c2 m.st (eCalls m.h) (eInts m.ms) = some (eInts (leftM u m)) := by
 unfold C56a
 refine bt (left_it (n := u.length) h2 (fun t => hasM u t m) id (fun i o hi ho => ?_) (fun o => ?_)) rfl
 ·unfold C56aL0
  refine cnT (by simp; omega) (bt (C70_m x1 h2 (i : Int)) (bt (v := eInts (bif hasM u (i : Int) m then o ++ [(i : Int)] else o)) ?_ ?_))
  ·cases hasM u (i : Int) m with
   | false => rfl
   | true => exact cnT rfl (bt (ap_enc1 (c := cI .i64) rfl (by omega)) rfl)
  ·simp only [std_wrp, std_zadd, wrap1 hi (by omega)]
 ·unfold C56aL0
  exact cnF (by simp) rfl
theorem leftM_has {u : Tab} {m : Mc} {t : Int} (h : t ∈ leftM u m) : hasM u t m = true := by
 unfold leftM at h
 obtain ⟨t0, h1, rfl⟩ := List.mem_map.1 h
 exact (List.mem_filter.1 h1).2
theorem leftM_len {u : Tab} (h2 : u.length ≤ 2) (m : Mc) : (leftM u m).length ≤ 2 := by
 unfold leftM
 rw [List.length_map]
 refine Nat.le_trans (List.length_filter_le _ _) ?_
 rw [List.length_range']; exact h2
theorem C146_eq (l : List D) (h : l.length < 4294967296) : C146 Ar.std l = some l := by
 have e : ap Ar.std [] l = some l := by simpa using ap_std (l := []) (m := l) (by simpa using (by omega : (l.length : Int) < 4294967296))
 unfold C146
 cases l with
 | nil => exact cnF rfl (by rw [e]; exact both_self _)
 | cons x r => exact cnT (by simp <;> omega) (by rw [e]; rfl)
theorem scalInts (h : List Int) : scalars (eInts h) = true := by
 simp only [scalars, eInts, enc, List.all_map, List.all_eq_true]
 intro x _; rfl
def endsM (c : Code) (u : Tab) (mks : List Int) : Nat → Mc → List Mc
 | 0, m => [m]
 | k + 1, m => bif (leftM u m).isEmpty then [m] else (leftM u m).flatMap fun t => endsM c u mks k (stepM c u mks t.toNat m)
theorem endsM_len {c : Code} {u : Tab} {mks : List Int} (h2 : u.length ≤ 2) : ∀ (k : Nat) (m : Mc), (endsM c u mks k m).length ≤ 2 ^ k
 | 0, m => Nat.le_refl _
 | k + 1, m => by
   unfold endsM
   cases (leftM u m).isEmpty with
   | true => rw [cond_true]; exact Nat.one_le_two_pow
   | false =>
     rw [cond_false, List.length_flatMap]
     have hl := leftM_len h2 m
     generalize leftM u m = l at hl
     have key : ∀ l : List Int, (l.map fun t => (endsM c u mks k (stepM c u mks t.toNat m)).length).sum ≤ l.length * 2 ^ k := by
      intro l
      induction l with
      | nil => simp
      | cons t r ih =>
        have := endsM_len (c := c) (mks := mks) h2 k (stepM c u mks t.toNat m)
        rw [List.map_cons, List.sum_cons, List.length_cons, Nat.add_mul, Nat.one_mul]
        omega
     have h3 := key l
     have h4 := Nat.mul_le_mul_right (2 ^ k) hl
     rw [Nat.pow_succ]
     omega
structure Vis {X Y : Type} (c : Code) (u : Tab) (vis : CellF (List D → X → Option X)) (re : Y → X) (f : Mc → Y → Y) (J : Nat → Y → Prop) : Prop where
 go : ∀ (m : Mc) (sch : List Int) (y : Y), J 1 y → m.h.length ≤ 100 → appM vis c u m (eInts sch) (re y) = some (re (f m y))
 step : ∀ (m : Mc) (k : Nat) (y : Y), J (k + 1) y → J k (f m y)
 mono : ∀ (j k : Nat) (y : Y), j ≤ k → J k y → J j y
theorem Vis.fold {X Y : Type} {c : Code} {u : Tab} {vis : CellF (List D → X → Option X)} {re : Y → X} {f : Mc → Y → Y} {J : Nat → Y → Prop} (V : Vis c u vis re f J) : ∀ (l : List Mc) (r : Nat) (y : Y), J (l.length + r) y → J r (l.foldl (fun y e => f e y) y)
 | [], r, y, h => by simpa using h
 | e :: l, r, y, h => V.fold l r _ (V.step e _ y (by rw [List.length_cons] at h; exact V.mono _ _ y (by omega) h))
section
variable {c : Code} {u : Tab} {mks : List Int} (hmk : MkOk c mks) (hv : vCode c = true) (hu : vUse c u = true) {X Y : Type} {vis : CellF (List D → X → Option X)} {re : Y → X} {f : Mc → Y → Y} {J : Nat → Y → Prop} (V : Vis c u vis re f J) {steps : Int} (hs0 : steps ≤ 12)
def SelfOk (c : Code) (u : Tab) (mks : List Int) (re : Y → X) (f : Mc → Y → Y) (J : Nat → Y → Prop) (steps : Int) (k : Nat) (slf : CellF (Int → List D → List D → X → Option (Bool × X))) : Prop :=
 ∀ (m : Mc) (sch : List Int) (y : Y), MInv c u m → m.st + k = steps → (sch.length : Int) ≤ m.st → J (2 ^ k) y →
   appM slf c u m steps (eInts mks) (eInts sch) (re y) = some (true, re ((endsM c u mks k m).foldl (fun y e => f e y) y))
include hmk hv hu hs0 V
theorem gB_ok (k : Nat) (slf : CellF (Int → List D → List D → X → Option (Bool × X))) (hself : ∀ k', k = k' + 1 → SelfOk c u mks re f J steps k' slf) : SelfOk c u mks re f J steps k (gB Ar.std vis slf) := by
 intro m sch y hi hst hsch hJ
 have h2 := ulen mks hmk hv hu
 have hhs := hi.st
 have hms := hi.ms
 unfold appM gB
 refine bt (C56a_eq (eCode c) m h2) ?_
 refine bt (v := (leftM u m).isEmpty || decide (m.st = steps)) ?_ ?_
 ·cases hl : leftM u m with
  | nil => rfl
  | cons t r => exact cnF (by simp <;> omega) rfl
 ·cases hb : ((leftM u m).isEmpty || decide (m.st = steps)) with
  | true =>
    have he : endsM c u mks k m = [m] := by
     cases k with
     | zero => rfl
     | succ k =>
       unfold endsM
       have : (leftM u m).isEmpty = true := by
        rw [Bool.or_eq_true, decide_eq_true_eq] at hb
        rcases hb with h | h
        ·exact h
        ·omega
       rw [this, cond_true]
    rw [he]
    exact cnT rfl (bt (V.go m sch y (V.mono _ _ y Nat.one_le_two_pow hJ) (by omega)) rfl)
  | false =>
    rw [Bool.or_eq_false_iff, decide_eq_false_iff_not] at hb
    obtain ⟨k', rfl⟩ : ∃ k', k = k' + 1 := ⟨k - 1, by have := hb.2; omega⟩
    have hself := hself k' rfl
    have hll := leftM_len h2 m
    refine cnF rfl ?_
    have e := iter_list (step := gL Ar.std (eCode c) (eTab u) m.a.cl m.a.ln m.a.r0 m.a.r1 m.a.r2 m.a.r3 m.a.at_ m.b.cl m.b.ln m.b.r0 m.b.r1 m.b.r2 m.b.r3 m.b.at_ m.c0 m.c1 m.c2 m.st (eCalls m.h) (eInts m.ms) steps (eInts mks) (eInts sch) (eInts (leftM u m)) slf)
     (leftM u m) (fun (y : Y) (i : Nat) => ((i : Int), re y)) (fun y t => .inl ((endsM c u mks k' (stepM c u mks t.toNat m)).foldl (fun y e => f e y) y)) (fun y => .inl (re y)) (fun i y => J (((leftM u m).length - i) * 2 ^ k') y)
     (fun i t y hn hI => by
      have hlt := (List.getElem?_eq_some_iff.1 hn).1
      have ht := leftM_has (List.mem_of_getElem? hn)
      have hsplit : ((leftM u m).length - i) * 2 ^ k' = 2 ^ k' + ((leftM u m).length - (i + 1)) * 2 ^ k' := by
       rw [show (leftM u m).length - i = ((leftM u m).length - (i + 1)) + 1 by omega, Nat.add_mul, Nat.one_mul, Nat.add_comm]
      rw [hsplit] at hI
      refine .inl ⟨_, rfl, ?_, ?_⟩
      ·exact V.fold _ _ _ (V.mono _ _ y (Nat.add_le_add_right (endsM_len h2 k' _) _) hI)
      ·unfold gL
       have hn1 := minv_next mks hmk hv hu hi ht
       have hsl : sl Ar.std (eInts sch) 0 (Ar.std.len (eInts sch)) = some (eInts sch) := by
        rw [len_enc, sl_encT (Nat.le_refl _), List.take_length]
       refine cnT (by simp; omega) (bt (gt_enc hn) (bt (v := (eCode c, eTab u, m.a.cl, m.a.ln, m.a.r0, m.a.r1, m.a.r2, m.a.r3, m.a.at_, m.b.cl, m.b.ln, m.b.r0, m.b.r1, m.b.r2, m.b.r3, m.b.at_, m.c0, m.c1, m.c2, m.st, eCalls m.h, eInts m.ms)) ?_ (bt (C71_m mks hmk hv hu hi (by omega) ht) (bt hsl (bt (v := ()) (by simp [ck]) (bt (ap_enc1 (c := cI .i64) rfl (by omega)) (bt (hself (stepM c u mks t.toNat m) (sch ++ [t]) y hn1 (by rw [step_st]; omega) (by rw [step_st, List.length_append]; simp; omega) (V.mono _ _ y (by omega) hI)) ?_)))))))
       ·unfold C124
        exact bt (C146_eq _ (by simp; omega)) (bt (v := ()) (by rw [scalCalls]; rfl) (bt (C54_eq (c := []) ⟨by decide, fun r h => by cases h⟩ (u := []) ⟨by decide, fun r h => by cases h⟩ (sch := []) (by decide) _ (by simp; omega)) (bt (v := ()) (by rw [scalInts]; rfl) rfl)))
       ·refine cnT rfl ?_
        simp only [std_wrp, std_zadd, wrap1 hlt (by omega)])
     (fun y _ => by unfold gL; exact cnF (by simp) rfl) y (by simpa using V.mono _ _ y (by rw [Nat.pow_succ, Nat.mul_comm (2 ^ k')]; exact Nat.mul_le_mul_right _ hll) hJ)
    refine bt e ?_
    rw [foldE_inl]
    simp only [Sum.elim_inl]
    have he : endsM c u mks (k' + 1) m = (leftM u m).flatMap fun t => endsM c u mks k' (stepM c u mks t.toNat m) := by
     rw [show endsM c u mks (k' + 1) m = _ from rfl]
     show (bif (leftM u m).isEmpty then [m] else _) = _
     rw [hb.1, cond_false]
    rw [he, List.foldl_flatMap]
end
end Go.Am

set_option maxRecDepth 100000
set_option maxHeartbeats 2000000
set_option linter.unusedVariables false
set_option linter.unusedSimpArgs false
set_option linter.unusedSectionVars false
namespace Go.Am
open Go
def jN (k : Nat) (y : Nat) : Prop := y + k ≤ 100000
def reN (y : Nat) : Int := (y : Int)
theorem visN (c : Code) (u : Tab) : Vis c u (C90 Ar.std) reN (fun _ y => y + 1) jN where
 go m sch y hJ _ := by
  show C90 Ar.std _ _ _ _ _ _ _ _ _ _ _ _ _ _ _ _ _ _ _ _ _ _ _ _ = _
  unfold C90 reN
  unfold jN at hJ
  simp only [std_wrp, std_zadd]
  rw [wrap1 (n := 100000) (by omega) (by decide)]
 step m k y h := by unfold jN at *; omega
 mono j k y h h' := by unfold jN at *; omega
theorem foldN (l : List Mc) (y : Nat) : l.foldl (fun y (_ : Mc) => y + 1) y = y + l.length := by
 induction l generalizing y with
 | nil => rfl
 | cons a r ih => rw [List.foldl_cons, ih, List.length_cons]; omega
def jH (k : Nat) (y : List (List Call)) : Prop := y.length + k ≤ 100000
def eHis (y : List (List Call)) : List D := enc (cL 6) (y.map eCalls)
theorem visH (c : Code) (u : Tab) : Vis c u (C93 Ar.std) eHis (fun m y => y ++ [m.h]) jH where
 go m sch y hJ _ := by
  show C93 Ar.std _ _ _ _ _ _ _ _ _ _ _ _ _ _ _ _ _ _ _ _ _ _ _ _ = _
  unfold C93 eHis
  unfold jH at hJ
  rw [List.map_append]
  exact bt (ap_enc1 (c := cL 6) rfl (by rw [List.length_map]; omega)) rfl
 step m k y h := by unfold jH at *; rw [List.length_append]; simp; omega
 mono j k y h h' := by unfold jH at *; omega
theorem foldH (l : List Mc) (y : List (List Call)) : l.foldl (fun y (m : Mc) => y ++ [m.h]) y = y ++ l.map Mc.h := by
 induction l generalizing y with
 | nil => simp
 | cons a r ih => rw [List.foldl_cons, ih, List.map_cons, List.append_assoc]; rfl
section
variable {c : Code} {u : Tab} {mks : List Int} (hmk : MkOk c mks) (hv : vCode c = true) (hu : vUse c u = true) {steps : Int} (hs0 : steps ≤ 12)
include hmk hv hu hs0
theorem C85cR_ok : ∀ (k j : Nat), k < j → SelfOk c u mks reN (fun _ y => y + 1) jN steps k (C85cR Ar.std j)
 | k, 0, h => by omega
 | k, j + 1, h => gB_ok hmk hv hu (visN c u) hs0 k (C85cR Ar.std j) fun k' hk => C85cR_ok k' j (by omega)
theorem C85aR_ok : ∀ (k j : Nat), k < j → SelfOk c u mks eHis (fun m y => y ++ [m.h]) jH steps k (C85aR Ar.std j)
 | k, 0, h => by omega
 | k, j + 1, h => gB_ok hmk hv hu (visH c u) hs0 k (C85aR Ar.std j) fun k' hk => C85aR_ok k' j (by omega)
end
section
variable {c : Code} (hc : CodeOk c) {u : Tab} (hut : TabOk u) (hv : vCode c = true) (hu : vUse c u = true) {k : Nat} (hk : k ≤ 12)
include hc hut hv hu hk
theorem codeE0 : codeE c u = 0 := by
 unfold codeE; rw [hv, hu]; rfl
theorem C85b_ok : C85b Ar.std (eCode c) (eTab u) 0 0 0 0 0 0 0 0 0 0 0 0 0 0 0 0 0 0 (k : Int) [] [] 0 [] [] = some (true, ((endsM c u [] k mc0).length : Int)) := by
 have hp : 2 ^ k ≤ 2 ^ 12 := Nat.pow_le_pow_right (by omega) hk
 have e := gB_ok (mks := []) (.inl rfl) hv hu (visN c u) (steps := (k : Int)) (by omega) k (C85c Ar.std) (fun k' hk' => C85cR_ok (.inl rfl) hv hu (by omega) k' fuel (by unfold fuel; omega)) mc0 [] 0 (minv0 c u) (by simp [mc0]) (by simp [mc0]) (by unfold jN; omega)
 rw [foldN, Nat.zero_add] at e
 exact e
theorem C85_ok : C85 Ar.std (eCode c) (eTab u) 0 0 0 0 0 0 0 0 0 0 0 0 0 0 0 0 0 0 (k : Int) [] [] [] [] [] = some (true, eHis ((endsM c u [] k mc0).map Mc.h)) := by
 have hp : 2 ^ k ≤ 2 ^ 12 := Nat.pow_le_pow_right (by omega) hk
 have e := gB_ok (mks := []) (.inl rfl) hv hu (visH c u) (steps := (k : Int)) (by omega) k (C85a Ar.std) (fun k' hk' => C85aR_ok (.inl rfl) hv hu (by omega) k' fuel (by unfold fuel; omega)) mc0 [] [] (minv0 c u) (by simp [mc0]) (by simp [mc0]) (by unfold jH; simp; omega)
 rw [foldH, List.nil_append] at e
 exact e
theorem C84_ok : C84 Ar.std (k : Int) = some true := by
 unfold C84
 refine bt (v := true) ?_ rfl
 rw [C47_eq]; simp [btw]; omega
theorem C36_ok : C36 Ar.std (eCode c) (eTab u) (k : Int) = some (((endsM c u [] k mc0).length : Int), 0) := by
 unfold C36
 refine bt (C89_eq c hc u hut) ?_
 rw [codeE0 hc hut hv hu hk]
 exact cnT rfl (bt (C84_ok hc hut hv hu hk) (cnT rfl (bt (v := (eCode c, eTab u)) rfl (bt (C85b_ok hc hut hv hu hk) rfl))))
end
end Go.Am

set_option maxRecDepth 100000
set_option maxHeartbeats 2000000
set_option linter.unusedVariables false
set_option linter.unusedSimpArgs false
set_option linter.unusedSectionVars false
namespace Go.Am
open Go
def orI : List Int → Int
 | [] => 0
 | a :: r => bif decide (a = 0) then orI r else a
theorem C132_eq (l : List Int) (hl : l.length < Lg) : C132 Ar.std (eInts l) = some (orI l) := by
 have e := iter_list0 (step := C132L0 Ar.std (eInts l)) l (fun (_ : Unit) (i : Nat) => (i : Int)) (fun _ a => bif decide (a = 0) then .inl () else .inr (.inr a)) (fun _ => .inl ())
  (fun i a s ha hi => by
   unfold C132L0
   refine cnT (by simp; omega) (bt (gt_enc ha) ?_)
   cases hd : decide (a = 0) with
   | true => exact cnT hd (by simp only [std_wrp, std_zadd, wrap1 hi hl]; rfl)
   | false => exact cnF hd rfl)
  (fun s => by unfold C132L0; exact cnF (by simp) rfl) ()
 unfold C132
 refine bt e ?_
 clear e hl
 induction l with
 | nil => rfl
 | cons a r ih =>
   unfold foldE orI
   cases hd : decide (a = 0) with
   | true => exact ih
   | false => rfl
def GC (x : Call) : Prop := (0 ≤ x.th ∧ x.th ≤ 999) ∧ x.ob = 0 ∧ (0 ≤ x.op ∧ x.op ≤ 999) ∧ (0 ≤ x.sa ∧ x.sa ≤ 999) ∧ (0 ≤ x.fr ∧ x.fr ≤ 999) ∧ (0 ≤ x.to ∧ x.to ≤ 999)
def GH (h : List Call) : Prop := h.length ≤ 100 ∧ ∀ x ∈ h, GC x
def cmpC (x y : Call) : Int := orI [x.th - y.th, x.op - y.op, x.sa - y.sa, x.fr - y.fr, x.to - y.to]
def rank (x : Call) : Int := (((x.th * 1000 + x.op) * 1000 + x.sa) * 1000 + x.fr) * 1000 + x.to
theorem C97_eq {x y : Call} (hx : GC x) (hy : GC y) : C97 Ar.std x.1 x.2.1 x.2.2.1 x.2.2.2.1 x.2.2.2.2.1 x.2.2.2.2.2 y.1 y.2.1 y.2.2.1 y.2.2.2.1 y.2.2.2.2.1 y.2.2.2.2.2 = some (cmpC x y) := by
 obtain ⟨a1, a2, a3, a4, a5, a6⟩ := hx
 obtain ⟨b1, b2, b3, b4, b5, b6⟩ := hy
 simp only [Call.th, Call.op, Call.sa, Call.fr, Call.to] at a1 a3 a4 a5 a6 b1 b3 b4 b5 b6
 unfold C97 cmpC
 simp only [std_wrp, std_zsub]
 rw [i64w (x.1 - y.1) (by omega) (by omega), i64w (x.2.2.1 - y.2.2.1) (by omega) (by omega), i64w (x.2.2.2.1 - y.2.2.2.1) (by omega) (by omega), i64w (x.2.2.2.2.1 - y.2.2.2.2.1) (by omega) (by omega), i64w (x.2.2.2.2.2 - y.2.2.2.2.2) (by omega) (by omega)]
 exact bt (C132_eq [x.th - y.th, x.op - y.op, x.sa - y.sa, x.fr - y.fr, x.to - y.to] (by show (5 : Nat) < 9223372036854775808; decide)) rfl
theorem cmpC_rank {x y : Call} (hx : GC x) (hy : GC y) : (cmpC x y < 0 ↔ rank x < rank y) ∧ (cmpC x y = 0 ↔ rank x = rank y) := by
 obtain ⟨a1, a2, a3, a4, a5, a6⟩ := hx
 obtain ⟨b1, b2, b3, b4, b5, b6⟩ := hy
 unfold cmpC rank
 simp only [orI]
 by_cases h1 : x.th - y.th = 0
 ·rw [decide_eq_true h1, cond_true]
  by_cases h2 : x.op - y.op = 0
  ·rw [decide_eq_true h2, cond_true]
   by_cases h3 : x.sa - y.sa = 0
   ·rw [decide_eq_true h3, cond_true]
    by_cases h4 : x.fr - y.fr = 0
    ·rw [decide_eq_true h4, cond_true]
     by_cases h5 : x.to - y.to = 0
     ·rw [decide_eq_true h5, cond_true]; constructor <;> omega
     ·rw [decide_eq_false h5, cond_false]; constructor <;> omega
    ·rw [decide_eq_false h4, cond_false]; constructor <;> omega
   ·rw [decide_eq_false h3, cond_false]; constructor <;> omega
  ·rw [decide_eq_false h2, cond_false]; constructor <;> omega
 ·rw [decide_eq_false h1, cond_false]; constructor <;> omega
theorem rank_inj {x y : Call} (hx : GC x) (hy : GC y) (h : rank x = rank y) : x = y := by
 obtain ⟨x1, x2, x3, x4, x5, x6⟩ := x
 obtain ⟨y1, y2, y3, y4, y5, y6⟩ := y
 obtain ⟨a1, a2, a3, a4, a5, a6⟩ := hx
 obtain ⟨b1, b2, b3, b4, b5, b6⟩ := hy
 unfold rank at h
 simp only [Call.th, Call.ob, Call.op, Call.sa, Call.fr, Call.to] at *
 have e1 : x1 = y1 := by omega
 have e2 : x3 = y3 := by omega
 have e3 : x4 = y4 := by omega
 have e4 : x5 = y5 := by omega
 have e5 : x6 = y6 := by omega
 subst e1 e2 e3 e4 e5
 rw [a2, b2]
def cmpH : List Call → List Call → Int
 | [], [] => 0
 | [], _ :: _ => -1
 | _ :: _, [] => 1
 | x :: a, y :: b => bif decide (cmpC x y = 0) then cmpH a b else cmpC x y
theorem C96_eq {a b : List Call} (ha : GH a) (hb : GH b) : C96 Ar.std (eCalls a) (eCalls b) = some (cmpH a b) := by
 have e := iter_list (step := C96L0 Ar.std (eCalls a) (eCalls b)) a (fun (_ : List Call) (i : Nat) => (i : Int))
  (fun s x => match s with | [] => .inr (.inr 1) | y :: r => bif decide (cmpC x y = 0) then .inl r else .inr (.inr (cmpC x y))) (fun _ => .inl ()) (fun i s => s = b.drop i)
  (fun i x s hx hs => by
   have hi := (List.getElem?_eq_some_iff.1 hx).1
   have hla := ha.1
   subst hs
   rcases Nat.lt_or_ge i b.length with hl | hl
   ·have hy : b[i]? = some b[i] := List.getElem?_eq_getElem hl
    rw [List.drop_eq_getElem_cons hl]
    have hc := C97_eq (ha.2 x (List.mem_of_getElem? hx)) (hb.2 _ (List.mem_of_getElem? hy))
    cases hd : decide (cmpC x b[i] = 0) with
    | true =>
      refine .inl ⟨b.drop (i + 1), by simp only [hd, cond_true], rfl, ?_⟩
      unfold C96L0
      refine cnT (by simp; omega) (bt (gt_enc hx) (cnF (by simp; omega) (bt (gt_enc hy) (bt hc (cnT hd ?_)))))
      simp only [std_wrp, std_zadd, wrap1 hi (by omega)]
    | false =>
      refine .inr ⟨.inr (cmpC x b[i]), by simp only [hd, cond_false], ?_⟩
      unfold C96L0
      exact cnT (by simp; omega) (bt (gt_enc hx) (cnF (by simp; omega) (bt (gt_enc hy) (bt hc (cnF hd rfl)))))
   ·rw [List.drop_eq_nil_of_le hl]
    refine .inr ⟨_, rfl, ?_⟩
    unfold C96L0
    exact cnT (by simp; omega) (bt (gt_enc hx) (cnT (by simp; omega) rfl)))
  (fun s _ => by unfold C96L0; exact cnF (by simp) rfl) b rfl
 unfold C96
 refine bt e ?_
 clear e ha hb
 simp only [len_enc, std_zlt]
 induction a generalizing b with
 | nil =>
   cases b with
   | nil => rfl
   | cons y b =>
     show (bif _ then _ else _) = _
     have h : decide (((([] : List Call).length : Nat) : Int) < (((y :: b).length : Nat) : Int)) = true := by simp <;> omega
     rw [h]; rfl
 | cons x a ih =>
   cases b with
   | nil => rfl
   | cons y b =>
     unfold foldE cmpH
     cases hd : decide (cmpC x y = 0) with
     | true =>
       simp only [hd, cond_true, Sum.elim_inl]
       have := ih (b := b)
       rw [show decide ((((x :: a).length : Nat) : Int) < (((y :: b).length : Nat) : Int)) = decide (((a.length : Nat) : Int) < ((b.length : Nat) : Int)) by simp [List.length_cons]]
       exact this
     | false => simp only [hd, cond_false, Sum.elim_inr, id]
theorem C95_eq {a b : List Call} (ha : GH a) (hb : GH b) : C95 Ar.std (eCalls a) (eCalls b) = some (cmpH a b) := bt (C96_eq ha hb) rfl
def cmpL : List Int → List Int → Int
 | [], [] => 0
 | [], _ :: _ => -1
 | _ :: _, [] => 1
 | x :: a, y :: b => if x < y then -1 else if y < x then 1 else cmpL a b
theorem cmpH_L {a b : List Call} (ha : ∀ x ∈ a, GC x) (hb : ∀ x ∈ b, GC x) : cmpH a b < 0 ↔ cmpL (a.map rank) (b.map rank) < 0 := by
 induction a generalizing b with
 | nil => cases b <;> simp [cmpH, cmpL]
 | cons x a ih =>
   cases b with
   | nil => simp [cmpH, cmpL]
   | cons y b =>
     obtain ⟨h1, h2⟩ := cmpC_rank (ha x (by simp)) (hb y (by simp))
     have := ih (b := b) (fun x hx => ha x (by simp [hx])) (fun x hx => hb x (by simp [hx]))
     unfold cmpH
     simp only [List.map_cons, cmpL]
     by_cases h0 : cmpC x y = 0
     ·rw [decide_eq_true h0, cond_true, if_neg (by omega), if_neg (by omega)]; exact this
     ·rw [decide_eq_false h0, cond_false]
      by_cases h3 : rank x < rank y
      ·rw [if_pos h3]; simp; omega
      ·rw [if_neg h3, if_pos (by omega)]; simp; omega
theorem cmpL_irr : ∀ a, cmpL a a = 0
 | [] => rfl
 | x :: a => by unfold cmpL; rw [if_neg (by omega), if_neg (by omega)]; exact cmpL_irr a
theorem cmpL_tr : ∀ a b c, cmpL a b < 0 → cmpL b c < 0 → cmpL a c < 0
 | [], [], c, h, _ => by simp [cmpL] at h
 | [], y :: b, [], _, h => by simp [cmpL] at h
 | [], y :: b, z :: c, _, _ => by simp [cmpL]
 | x :: a, [], c, h, _ => by simp [cmpL] at h
 | x :: a, y :: b, [], _, h => by simp [cmpL] at h
 | x :: a, y :: b, z :: c, h, h' => by
   unfold cmpL at h h' ⊢
   by_cases h1 : x < z
   ·rw [if_pos h1]; decide
   ·rw [if_neg h1]
    by_cases h2 : z < x
    ·exfalso
     split at h <;> split at h'
     ·omega
     ·split at h' <;> omega
     ·split at h <;> omega
     ·split at h
      ·omega
      ·split at h' <;> omega
    ·rw [if_neg h2]
     split at h <;> split at h'
     ·omega
     ·split at h' <;> omega
     ·split at h <;> omega
     ·split at h
      ·omega
      ·split at h'
       ·omega
       ·exact cmpL_tr a b c h h'
theorem cmpL_tot : ∀ a b, ¬ cmpL a b < 0 → ¬ cmpL b a < 0 → a = b
 | [], [], _, _ => rfl
 | [], y :: b, h, _ => by simp [cmpL] at h
 | x :: a, [], _, h => by simp [cmpL] at h
 | x :: a, y :: b, h, h' => by
   unfold cmpL at h h'
   by_cases h1 : x < y
   ·rw [if_pos h1] at h; simp at h
   ·by_cases h2 : y < x
    ·rw [if_pos h2] at h'; simp at h'
    ·rw [if_neg h1, if_neg h2] at h; rw [if_neg h2, if_neg h1] at h'
     rw [cmpL_tot a b h h', show x = y by omega]
theorem ltF_C95 {a b : List Call} (ha : GH a) (hb : GH b) : ltF (fun a0 b0 => C95 Ar.std a0 b0) (eCalls a) (eCalls b) = decide (cmpL (a.map rank) (b.map rank) < 0) := by
 unfold ltF
 simp only [C95_eq ha hb]
 exact decide_eq_decide.2 (cmpH_L ha.2 hb.2)
theorem map_rank_inj : ∀ {a b : List Call}, (∀ x ∈ a, GC x) → (∀ x ∈ b, GC x) → a.map rank = b.map rank → a = b
 | [], [], _, _, _ => rfl
 | [], _ :: _, _, _, h => by simp at h
 | _ :: _, [], _, _, h => by simp at h
 | x :: a, y :: b, ha, hb, h => by
   rw [List.map_cons, List.map_cons, List.cons.injEq] at h
   rw [rank_inj (ha x (by simp)) (hb y (by simp)) h.1, map_rank_inj (fun x hx => ha x (by simp [hx])) (fun x hx => hb x (by simp [hx])) h.2]
theorem cmpOk (l : List (List Call)) (hl : ∀ h ∈ l, GH h) : CmpOk (fun a0 b0 => C95 Ar.std a0 b0) (l.map eCalls) where
 some x hx y hy := by
  obtain ⟨a, ha, rfl⟩ := List.mem_map.1 hx
  obtain ⟨b, hb, rfl⟩ := List.mem_map.1 hy
  exact ⟨_, C95_eq (hl a ha) (hl b hb)⟩
 irr x hx := by
  obtain ⟨a, ha, rfl⟩ := List.mem_map.1 hx
  rw [ltF_C95 (hl a ha) (hl a ha), cmpL_irr]; rfl
 tr x hx y hy z hz h1 h2 := by
  obtain ⟨a, ha, rfl⟩ := List.mem_map.1 hx
  obtain ⟨b, hb, rfl⟩ := List.mem_map.1 hy
  obtain ⟨c, hc, rfl⟩ := List.mem_map.1 hz
  rw [ltF_C95 (hl a ha) (hl b hb), decide_eq_true_eq] at h1
  rw [ltF_C95 (hl b hb) (hl c hc), decide_eq_true_eq] at h2
  rw [ltF_C95 (hl a ha) (hl c hc), decide_eq_true_eq]
  exact cmpL_tr _ _ _ h1 h2
 tot x hx y hy h1 h2 := by
  obtain ⟨a, ha, rfl⟩ := List.mem_map.1 hx
  obtain ⟨b, hb, rfl⟩ := List.mem_map.1 hy
  rw [ltF_C95 (hl a ha) (hl b hb), decide_eq_false_iff_not] at h1
  rw [ltF_C95 (hl b hb) (hl a ha), decide_eq_false_iff_not] at h2
  rw [map_rank_inj (hl a ha).2 (hl b hb).2 (cmpL_tot _ _ h1 h2)]
end Go.Am

set_option maxRecDepth 100000
set_option maxHeartbeats 2000000
set_option linter.unusedVariables false
set_option linter.unusedSimpArgs false
set_option linter.unusedSectionVars false
namespace Go.Am
open Go
theorem C99_some {a b : List Call} (ha : GH a) (hb : GH b) : ∃ r, C99 Ar.std (eCalls a) (eCalls b) = some r := by
 unfold C99
 have h1 := ha.1; have h2 := hb.1
 by_cases hl : a.length = b.length
 ·rcases iter_relE (step := C99L0 Ar.std (eCalls a) (eCalls b)) a.length (fun (_ : Unit) (i : Nat) => (i : Int)) (fun _ _ => True) (fun _ x => x = .inr ()) (fun _ => .inl ())
   (fun i s hi _ => by
    have hx : a[i]? = some a[i] := List.getElem?_eq_getElem hi
    have hy : b[i]? = some b[i] := List.getElem?_eq_getElem (by omega)
    cases hd : Ar.std.deq [(.int .i64 a[i].1), (.int .i64 a[i].2.1), (.int .i64 a[i].2.2.1), (.int .i64 a[i].2.2.2.1), (.int .i64 a[i].2.2.2.2.1), (.int .i64 a[i].2.2.2.2.2)] [(.int .i64 b[i].1), (.int .i64 b[i].2.1), (.int .i64 b[i].2.2.1), (.int .i64 b[i].2.2.2.1), (.int .i64 b[i].2.2.2.2.1), (.int .i64 b[i].2.2.2.2.2)] with
    | true =>
      refine .inl ⟨(), trivial, ?_⟩
      unfold C99L0
      refine cnT (by simp; omega) (bt (gt_enc hx) (bt (gt_enc hy) (cnT hd ?_)))
      simp only [std_wrp, std_zadd, wrap1 hi (by omega)]
    | false =>
      refine .inr ⟨_, rfl, ?_⟩
      unfold C99L0
      exact cnT (by simp; omega) (bt (gt_enc hx) (bt (gt_enc hy) (cnF hd rfl))))
   (fun s _ => by unfold C99L0; exact cnF (by simp) rfl) () trivial with ⟨_, _, e⟩ | ⟨_, x, _, rfl, e⟩
  ·exact ⟨true, cnT (by simp [hl]) (bt e rfl)⟩
  ·exact ⟨false, cnT (by simp [hl]) (bt e rfl)⟩
 ·exact ⟨false, cnF (by simp; omega) rfl⟩
def GHs (n : Nat) (l : List (List Call)) : Prop := l.length = n ∧ ∀ h ∈ l, GH h
theorem gcHis {l : List (List Call)} {j : Nat} {h : List Call} (hj : l[j]? = some h) {z : Int} (hz : z = (j : Int)) : gc Ar.std (cL 6) (eHis l) (Ar.std.nat z) = some (eCalls h) := by
 subst hz
 have : Ar.std.nat ((j : Nat) : Int) = j := by simp
 rw [this]
 exact gc_enc (by rw [List.getElem?_map, hj]; rfl)
theorem setHis (l : List (List Call)) (k : Nat) (h : List Call) {z : Int} (hz : z = (k : Int)) : Ar.std.lset (eHis l) (Ar.std.nat z) (.list 6 (eCalls h)) = eHis (l.set k h) := by
 subst hz
 have : Ar.std.nat ((k : Nat) : Int) = k := by simp
 rw [this, std_lset]
 unfold eHis
 rw [List.map_set]
 exact enc_set _ _ _
theorem lenHis (l : List (List Call)) : Ar.std.len (eHis l) = (l.length : Int) := by unfold eHis; simp
theorem GHs.set {n : Nat} {l : List (List Call)} (h : GHs n l) (k : Nat) {x : List Call} (hx : GH x) : GHs n (l.set k x) :=
 ⟨by rw [List.length_set]; exact h.1, fun y hy => by
  rcases List.mem_or_eq_of_mem_set hy with hy | rfl
  ·exact h.2 y hy
  ·exact hx⟩
theorem C98L0_it {n q : Nat} (hn : n ≤ 100000) (hq : 1 ≤ q) (hqn : q < n) {l : List (List Call)} (hl : GHs n l) :
  ∃ (k : Nat) (l' : List (List Call)), q ≤ k ∧ k < n ∧ GHs n l' ∧ iter (C98L0 Ar.std 0 (n : Int) (q : Int)) ((q : Int), 1, eHis l) = some ((k : Int), eHis l') := by
 obtain ⟨⟨k, l'⟩, ⟨h1, h2, h3⟩, e⟩ := iter_rel (step := C98L0 Ar.std 0 (n : Int) (q : Int)) (n - q - 1) (fun (s : Nat × List (List Call)) (i : Nat) => ((s.1 : Int), ((i + 1 : Nat) : Int), eHis s.2))
  (fun i s => q ≤ s.1 ∧ s.1 ≤ q + i ∧ GHs n s.2) (fun s => ((s.1 : Int), eHis s.2))
  (fun i s hi ⟨g1, g2, g3⟩ => by
   obtain ⟨k, l⟩ := s
   simp only at g1 g2 g3
   have hl := g3.1
   have hx : l[q + i + 1]? = some l[q + i + 1] := List.getElem?_eq_getElem (by omega)
   have hy : l[q + i]? = some l[q + i] := List.getElem?_eq_getElem (by omega)
   have gx := g3.2 _ (List.mem_of_getElem? hx)
   have gy := g3.2 _ (List.mem_of_getElem? hy)
   obtain ⟨r, hr⟩ := C99_some gx gy
   have hw : IntKind.i64.wrap (((i + 1 : Nat) : Int) - 1) = (i : Int) := by rw [i64w _ (by omega) (by omega)]; omega
   have c1 : ∀ a : Bool, a = true → ck a = some () := fun a h => by rw [h]; rfl
   have e1 : Ar.std.zlt (((i + 1 : Nat) : Int)) (Ar.std.zsub (n : Int) (q : Int)) = true := by simp; omega
   have e0 : Ar.std.zle 0 (((i + 1 : Nat) : Int)) = true := by simp; omega
   cases r with
   | true =>
     refine ⟨(k, l), ⟨g1, by simp only; omega, g3⟩, ?_⟩
     unfold C98L0
     refine cnT e1 (bt (c1 _ e0) (bt (c1 _ e1) (bt (gcHis hx (by simp; omega)) (bt (v := ()) (c1 _ (by simp only [std_wrp, std_zsub, hw]; simp)) (bt (v := ()) (c1 _ (by simp only [std_wrp, std_zsub, hw]; simp; omega)) (bt (gcHis hy (by simp only [std_wrp, std_zsub, hw]; simp)) (bt hr (bt (v := ((k : Int), eHis l)) rfl ?_))))))))
     simp only [std_wrp, std_zadd, wrap1 (i := i + 1) (n := 100001) (by omega) (by decide)]
   | false =>
     refine ⟨(k + 1, l.set k l[q + i + 1]), ⟨by simp only; omega, by simp only; omega, g3.set k gx⟩, ?_⟩
     unfold C98L0
     have hk : ∃ d, Ar.std.lget (eHis l) (Ar.std.nat (Ar.std.zadd 0 (k : Int))) = some d := by
      have : Ar.std.nat (Ar.std.zadd 0 (k : Int)) = k := by simp
      rw [this, std_lget]
      exact ⟨_, List.getElem?_eq_getElem (by unfold eHis; simp; omega)⟩
     obtain ⟨d, hd⟩ := hk
     refine cnT e1 (bt (c1 _ e0) (bt (c1 _ e1) (bt (gcHis hx (by simp; omega)) (bt (v := ()) (c1 _ (by simp only [std_wrp, std_zsub, hw]; simp)) (bt (v := ()) (c1 _ (by simp only [std_wrp, std_zsub, hw]; simp; omega)) (bt (gcHis hy (by simp only [std_wrp, std_zsub, hw]; simp)) (bt hr (bt (v := (((k + 1 : Nat) : Int), eHis (l.set k l[q + i + 1]))) ?_ ?_))))))))
     ·refine cnF rfl (bt (c1 _ e0) (bt (c1 _ e1) (bt (gcHis hx (by simp; omega)) (bt (v := ()) (c1 _ (by simp)) (bt (v := ()) (c1 _ (by simp; omega)) (bt hd ?_))))))
      rw [setHis l k _ (by simp)]
      simp only [std_wrp, std_zadd, wrap1 (i := k) (n := 100001) (by omega) (by decide)]
     ·simp only [std_wrp, std_zadd, wrap1 (i := i + 1) (n := 100001) (by omega) (by decide)])
  (fun s _ => by unfold C98L0; exact cnF (by simp; omega) rfl) (q, l) ⟨Nat.le_refl _, by simp, hl⟩
 exact ⟨k, l', h1, by simp only at h2; omega, h3, e⟩
theorem C98_ok {n : Nat} (hn : n ≤ 100000) (h0 : 1 ≤ n) {l : List (List Call)} (hl : GHs n l) (z1 z2 : Int) :
  ∃ (k : Nat) (l' : List (List Call)), 1 ≤ k ∧ k ≤ n ∧ GHs n l' ∧ C98 Ar.std 0 (n : Int) z1 z2 (eHis l) = some (0, (k : Int), eHis l') := by
 unfold C98
 by_cases h2 : n < 2
 ·exact ⟨n, l, h0, Nat.le_refl _, hl, cnT (by simp; omega) rfl⟩
 ·have c1 : ∀ a : Bool, a = true → ck a = some () := fun a h => by rw [h]; rfl
  rcases iter_relE (step := C98L1 Ar.std 0 (n : Int) (eHis l)) (n - 1) (fun (_ : Unit) (i : Nat) => ((i + 1 : Nat) : Int)) (fun _ _ => True) (fun _ x => ∃ (k : Nat) (l' : List (List Call)), 1 ≤ k ∧ k ≤ n ∧ GHs n l' ∧ x = .inr ((k : Int), eHis l')) (fun _ => .inl ())
   (fun i s hi _ => by
    have hll := hl.1
    have hx : l[i + 1]? = some l[i + 1] := List.getElem?_eq_getElem (by omega)
    have hy : l[i]? = some l[i] := List.getElem?_eq_getElem (by omega)
    obtain ⟨r, hr⟩ := C99_some (hl.2 _ (List.mem_of_getElem? hx)) (hl.2 _ (List.mem_of_getElem? hy))
    have hw : IntKind.i64.wrap (((i + 1 : Nat) : Int) - 1) = (i : Int) := by rw [i64w _ (by omega) (by omega)]; omega
    have e0 : Ar.std.zle 0 (((i + 1 : Nat) : Int)) = true := by simp; omega
    have e1 : Ar.std.zlt (((i + 1 : Nat) : Int)) (n : Int) = true := by simp; omega
    cases r with
    | false =>
      refine .inl ⟨(), trivial, ?_⟩
      unfold C98L1
      refine cnT e1 (bt (c1 _ e0) (bt (c1 _ e1) (bt (gcHis hx (by simp)) (bt (v := ()) (c1 _ (by simp only [std_wrp, std_zsub, hw]; simp)) (bt (v := ()) (c1 _ (by simp only [std_wrp, std_zsub, hw]; simp; omega)) (bt (gcHis hy (by simp only [std_wrp, std_zsub, hw]; simp)) (bt hr (cnF rfl ?_))))))))
      simp only [std_wrp, std_zadd, wrap1 (i := i + 1) (n := 100001) (by omega) (by decide)]
    | true =>
      obtain ⟨k, l', g1, g2, g3, e⟩ := C98L0_it hn (q := i + 1) (by omega) (by omega) hl
      refine .inr ⟨.inr ((k : Int), eHis (l'.take k ++ List.replicate (n - k) [])), ⟨k, _, by omega, by omega, ⟨by have := g3.1; simp; omega, fun h hh => ?_⟩, rfl⟩, ?_⟩
      ·rcases List.mem_append.1 hh with hh | hh
       ·exact g3.2 h (List.mem_of_mem_take hh)
       ·rw [(List.mem_replicate.1 hh).2]; exact ⟨by simp, fun x hx => by simp at hx⟩
      ·unfold C98L1
       have hlen' := lenHis l'
       rw [g3.1] at hlen'
       refine cnT e1 (bt (c1 _ e0) (bt (c1 _ e1) (bt (gcHis hx (by simp)) (bt (v := ()) (c1 _ (by simp only [std_wrp, std_zsub, hw]; simp)) (bt (v := ()) (c1 _ (by simp only [std_wrp, std_zsub, hw]; simp; omega)) (bt (gcHis hy (by simp only [std_wrp, std_zsub, hw]; simp)) (bt hr (cnT rfl ?_))))))))
       refine bt (c1 _ e0) (bt (v := ()) (c1 _ (by simp; omega)) (bt (v := ()) (c1 _ (by simp)) (bt e ?_)))
       dsimp only
       refine bt (v := ()) (c1 _ (by simp)) (bt (v := ()) (c1 _ (by simp; omega)) (bt (v := ()) (c1 _ (by simp)) (bt (v := ()) (c1 _ (by rw [hlen']; simp; omega)) (bt (v := ()) (c1 _ (by simp)) (bt (v := ()) (c1 _ (by simp)) (bt (v := ()) (c1 _ (by simp; omega)) ?_))))))
       have hf : Ar.std.fill (eHis l') (Ar.std.zadd 0 (k : Int)) (Ar.std.zsub (n : Int) (k : Int)) (.list 6 []) = eHis (l'.take k ++ List.replicate (n - k) []) := by
        have hl' := g3.1
        have a1 : Ar.std.zadd 0 (k : Int) = (k : Int) := by simp
        have a2 : Ar.std.zsub (n : Int) (k : Int) = ((n - k : Nat) : Int) := by simp; omega
        rw [a1, a2, std_fill]
        unfold fillStd eHis
        rw [Int.toNat_natCast, Int.toNat_natCast, List.drop_eq_nil_of_le (by simp; omega), List.append_nil, List.map_append, enc_append, List.map_take, List.map_replicate]
        congr 1
        ·unfold enc; rw [List.map_take]
        ·unfold enc; rw [List.map_replicate]; rfl
       rw [hf]
       simp)
   (fun s _ => by
    unfold C98L1
    exact cnF (by simp; omega) rfl) () trivial with ⟨_, _, e⟩ | ⟨_, x, _, ⟨k, l', g1, g2, g3, rfl⟩, e⟩
  ·exact ⟨n, l, h0, Nat.le_refl _, hl, cnF (by simp; omega) (bt e rfl)⟩
  ·exact ⟨k, l', g1, g2, g3, cnF (by simp; omega) (bt e (by simp))⟩
end Go.Am

set_option maxRecDepth 100000
set_option maxHeartbeats 2000000
set_option linter.unusedVariables false
set_option linter.unusedSimpArgs false
set_option linter.unusedSectionVars false
namespace Go.Am
open Go
theorem swp_cel {a b : Int} (ha : isCel a = true) (hb : isCel b = true) (x : Int) : isCel (swp a b x) = isCel x := by
 unfold swp
 by_cases h1 : x = a
 ·rw [decide_eq_true h1, cond_true, h1, ha, hb]
 ·rw [decide_eq_false h1, cond_false]
  by_cases h2 : x = b
  ·rw [decide_eq_true h2, cond_true, h2, ha, hb]
  ·rw [decide_eq_false h2, cond_false]
theorem swp_swp (a b x : Int) : swp a b (swp a b x) = x := by
 unfold swp
 by_cases h1 : x = a
 ·subst h1
  rw [decide_eq_true (rfl : x = x), cond_true]
  by_cases h2 : b = x
  ·rw [decide_eq_true h2, cond_true, h2]
  ·rw [decide_eq_false h2, cond_false, decide_eq_true (rfl : b = b), cond_true]
 ·rw [decide_eq_false h1, cond_false]
  by_cases h2 : x = b
  ·rw [decide_eq_true h2, cond_true, decide_eq_true (rfl : a = a), cond_true, h2]
  ·rw [decide_eq_false h2, cond_false, decide_eq_false h1, cond_false, decide_eq_false h2, cond_false]
theorem swL_eq (a b : Int) (l : Ln4) : swL a b l = if l.1 = 1 then (l.1, l.2.1, swp a b l.2.2.1, l.2.2.2) else if l.1 = 2 ∨ l.1 = 3 then (l.1, swp a b l.2.1, l.2.2.1, l.2.2.2) else l := by
 unfold swL
 by_cases h1 : l.1 = 1
 ·rw [decide_eq_true h1, cond_true, if_pos h1]
 ·rw [decide_eq_false h1, cond_false, if_neg h1]
  by_cases h2 : l.1 = 2
  ·rw [decide_eq_true h2, Bool.true_or, cond_true, if_pos (.inl h2)]
  ·rw [decide_eq_false h2, Bool.false_or]
   by_cases h3 : l.1 = 3
   ·rw [decide_eq_true h3, cond_true, if_pos (.inr h3)]
   ·rw [decide_eq_false h3, cond_false, if_neg (fun h => h.elim h2 h3)]
theorem swL_1 (a b : Int) (l : Ln4) : (swL a b l).1 = l.1 := by
 rw [swL_eq]; split
 ·rfl
 ·split <;> rfl
theorem swL_swL (a b : Int) (l : Ln4) : swL a b (swL a b l) = l := by
 rw [swL_eq a b (swL a b l), swL_1, swL_eq]
 by_cases h1 : l.1 = 1
 ·rw [if_pos h1, if_pos h1]; simp only [swp_swp]
 ·rw [if_neg h1, if_neg h1]
  by_cases h2 : l.1 = 2 ∨ l.1 = 3
  ·rw [if_pos h2, if_pos h2]; simp only [swp_swp]
  ·rw [if_neg h2, if_neg h2]
theorem swC_swC (a b : Int) (c : Code) : swC a b (swC a b c) = c := by
 unfold swC
 rw [List.map_map]
 conv => rhs; rw [← List.map_id c]
 apply List.map_congr_left
 intro l _
 show (l.map (swL a b)).map (swL a b) = l
 rw [List.map_map]
 conv => rhs; rw [← List.map_id l]
 exact List.map_congr_left fun x _ => swL_swL a b x
theorem okLine_sw {a b : Int} (ha : isCel a = true) (hb : isCel b = true) (l : Ln4) (m : Int) : okLine (swL a b l) m = okLine l m := by
 unfold okLine
 rw [swL_1, swL_eq]
 by_cases h1 : l.1 = 1
 ·rw [if_pos h1, if_pos h1, if_pos h1]; simp only [swp_cel ha hb]
 ·rw [if_neg h1, if_neg h1, if_neg h1]
  by_cases h2 : l.1 = 2
  ·rw [if_pos h2, if_pos h2, if_pos (.inl h2)]; simp only [swp_cel ha hb]
  ·rw [if_neg h2, if_neg h2]
   by_cases h3 : l.1 = 3
   ·rw [if_pos h3, if_pos h3, if_pos (.inr h3)]; simp only [swp_cel ha hb]
   ·have h23 : ¬ (l.1 = 2 ∨ l.1 = 3) := fun h => h.elim h2 h3
    simp only [if_neg h3, if_neg h23]
theorem okCall_sw {a b : Int} (ha : isCel a = true) (hb : isCel b = true) (l : List Ln4) : okCall (l.map (swL a b)) = okCall l := by
 unfold okCall
 rw [List.length_map, List.all_map]
 have e1 : ((fun x : Ln4 => okLine x ↑l.length) ∘ swL a b) = fun x => okLine x ↑l.length := by funext x; exact okLine_sw ha hb x _
 have e2 : endsGive (l.map (swL a b)) = endsGive l := by
  unfold endsGive
  rw [List.length_map, List.getElem?_map]
  cases l[l.length - 1]? with
  | none => rfl
  | some x => simp only [Option.map_some, swL_1]
 rw [e1, e2]
theorem vCode_sw {a b : Int} (ha : isCel a = true) (hb : isCel b = true) (c : Code) : vCode (swC a b c) = vCode c := by
 unfold vCode swC
 rw [List.length_map, List.all_map]
 have e1 : (okCall ∘ fun l : List Ln4 => l.map (swL a b)) = okCall := by funext l; exact okCall_sw ha hb l
 rw [e1]
theorem vUse_sw (a b : Int) (c : Code) (u : Tab) : vUse (swC a b c) u = vUse c u := by
 unfold vUse swC
 rw [List.length_map]
def swX (a b : Int) (X : Xs) : Xs := (X.1, X.2.1, X.2.2.1, X.2.2.2.1, X.2.2.2.2.1, X.2.2.2.2.2.1, rg3 X.2.2.2.2.2.2.1 X.2.2.2.2.2.2.2.1 X.2.2.2.2.2.2.2.2.1 (swp a b 0), rg3 X.2.2.2.2.2.2.1 X.2.2.2.2.2.2.2.1 X.2.2.2.2.2.2.2.2.1 (swp a b 1), rg3 X.2.2.2.2.2.2.1 X.2.2.2.2.2.2.2.1 X.2.2.2.2.2.2.2.2.1 (swp a b 2), X.2.2.2.2.2.2.2.2.2)
theorem xLn_sw {a b : Int} (ha : isCel a = true) (hb : isCel b = true) {l : Ln4} {n : Int} (hl : okLine l n = true) (st cl ln r0 r1 r2 r3 at_ c0 c1 c2 : Int) (h : List Call) :
  xLn (swL a b l) st cl ln r0 r1 r2 r3 at_ (rg3 c0 c1 c2 (swp a b 0)) (rg3 c0 c1 c2 (swp a b 1)) (rg3 c0 c1 c2 (swp a b 2)) h = swX a b (xLn l st cl ln r0 r1 r2 r3 at_ c0 c1 c2 h) := by
 have key : ∀ x : Int, isCel x = true → rg3 (rg3 c0 c1 c2 (swp a b 0)) (rg3 c0 c1 c2 (swp a b 1)) (rg3 c0 c1 c2 (swp a b 2)) (swp a b x) = rg3 c0 c1 c2 x := by
  intro x hx
  rcases isCel_iff.1 ha with rfl | rfl | rfl <;> rcases isCel_iff.1 hb with rfl | rfl | rfl <;> rcases isCel_iff.1 hx with rfl | rfl | rfl <;> rfl
 have keyp : ∀ x v : Int, isCel x = true → ∀ i : Int, isCel i = true → pk (swp a b x) i v (rg3 c0 c1 c2 (swp a b i)) = rg3 (pk x 0 v c0) (pk x 1 v c1) (pk x 2 v c2) (swp a b i) := by
  intro x v hx i hi
  rcases isCel_iff.1 ha with rfl | rfl | rfl <;> rcases isCel_iff.1 hb with rfl | rfl | rfl <;> rcases isCel_iff.1 hx with rfl | rfl | rfl <;> rcases isCel_iff.1 hi with rfl | rfl | rfl <;> rfl
 have p0 := fun x v hx => keyp x v hx 0 rfl
 have p1 := fun x v hx => keyp x v hx 1 rfl
 have p2 := fun x v hx => keyp x v hx 2 rfl
 obtain ⟨l1, A, B, C⟩ := l
 unfold okLine at hl
 rw [swL_eq]
 unfold xLn swX
 simp only at hl ⊢
 by_cases h1 : l1 = 1
 ·subst h1
  simp only [if_true, Bool.and_eq_true] at hl ⊢
  rw [key B hl.2.1]
 ·by_cases h2 : l1 = 2
  ·subst h2
   simp only [if_true, Bool.and_eq_true, true_or, show ¬ (2 : Int) = 1 by decide, if_false] at hl ⊢
   rw [p0 A _ hl.1, p1 A _ hl.1, p2 A _ hl.1]
  ·by_cases h3 : l1 = 3
   ·subst h3
    simp only [if_true, Bool.and_eq_true, or_true, show ¬ (3 : Int) = 1 by decide, show ¬ (3 : Int) = 2 by decide, if_false] at hl ⊢
    rw [key A hl.1]
    by_cases h4 : rg3 c0 c1 c2 A = rg4 r0 r1 r2 r3 B
    ·rw [if_pos h4, if_pos h4, p0 A _ hl.1, p1 A _ hl.1, p2 A _ hl.1]
    ·rw [if_neg h4, if_neg h4]
   ·have h23 : ¬ (l1 = 2 ∨ l1 = 3) := fun h => h.elim h2 h3
    simp only [if_neg h1, if_neg h2, if_neg h3, if_neg h23]
    split
    ·rfl
    ·split
     ·rfl
     ·split <;> rfl
def swM (a b : Int) (m : Mc) : Mc := { m with c0 := rg3 m.c0 m.c1 m.c2 (swp a b 0), c1 := rg3 m.c0 m.c1 m.c2 (swp a b 1), c2 := rg3 m.c0 m.c1 m.c2 (swp a b 2) }
theorem swM_0 {a b : Int} (ha : isCel a = true) (hb : isCel b = true) : swM a b mc0 = mc0 := by
 rcases isCel_iff.1 ha with rfl | rfl | rfl <;> rcases isCel_iff.1 hb with rfl | rfl | rfl <;> rfl
theorem lnOf_sw (a b : Int) (c : Code) (op ln : Int) : lnOf (swC a b c) op ln = swL a b (lnOf c op ln) := by
 unfold lnOf swC
 simp only [List.getD_eq_getElem?_getD, List.getElem?_map]
 cases c[op.toNat]? with
 | none => simp [swL_eq]
 | some l =>
   simp only [Option.map_some, Option.getD_some, List.getElem?_map]
   cases l[ln.toNat]? with
   | none => simp [swL_eq]
   | some x => rfl
theorem stepM_sw {a b : Int} (ha : isCel a = true) (hb : isCel b = true) {c : Code} {u : Tab} (mks : List Int) {t : Nat} {m : Mc} {n : Int} (hok : okLine (stL c u t m) n = true) :
  stepM (swC a b c) u mks t (swM a b m) = swM a b (stepM c u mks t m) := by
 have hL : stL (swC a b c) u t (swM a b m) = swL a b (stL c u t m) := lnOf_sw a b c _ _
 have hX : stX (swC a b c) u t (swM a b m) = swX a b (stX c u t m) := by
  unfold stX
  rw [hL]
  exact xLn_sw ha hb hok (m.st + 1) (m.hd t).cl (m.hd t).ln (stB u t m).1 (stB u t m).2.1 (stB u t m).2.2.1 (stB u t m).2.2.2.1 (stB u t m).2.2.2.2.1 m.c0 m.c1 m.c2 (stB u t m).2.2.2.2.2.1
 unfold stepM stH
 rw [hX, hL, swL_1]
 rfl
end Go.Am

set_option maxRecDepth 100000
set_option maxHeartbeats 1000000
set_option linter.unusedVariables false
set_option linter.unusedSimpArgs false
set_option linter.unusedSectionVars false
namespace Go.Am
open Go
def TR (x y : Call) : Prop := x.fr < y.fr ∧ (x.to ≠ 0 → x.to ≠ y.to) ∧ (x.th = y.th → x.to ≠ 0 ∧ x.to < y.fr)
def TC (c : Code) (st : Int) (x : Call) : Prop := (0 ≤ x.th ∧ x.th ≤ 1) ∧ x.ob = 0 ∧ (0 ≤ x.op ∧ x.op < c.length) ∧ dg x.sa ∧ (1 ≤ x.fr ∧ x.fr ≤ 2 * st - 1 ∧ x.fr % 2 = 1) ∧ ((x.to = 0 ∧ x.sa = 0) ∨ (x.fr < x.to ∧ x.to ≤ 2 * st ∧ x.to % 2 = 0))
def opsOf (h : List Call) (t : Int) : List Int := (h.filter fun x => decide (x.th = t)).map fun x => x.op
structure TInv (c : Code) (u : Tab) (m : Mc) : Prop where
 one : ∀ x ∈ m.h, TC c m.st x
 two : m.h.Pairwise TR
 ops : ∀ t : Nat, t < 2 → opsOf m.h t = (u.getD t []).take ((m.hd t).cl.toNat + (bif (m.hd t).inn then 1 else 0))
 le : ∀ t : Nat, t < 2 → (m.hd t).cl.toNat + (bif (m.hd t).inn then 1 else 0) ≤ (u.getD t []).length
 st0 : 0 ≤ m.st
theorem tinv0 (c : Code) (u : Tab) : TInv c u mc0 :=
 ⟨fun x hx => by simp [mc0] at hx, List.Pairwise.nil, fun t ht => by
  have e : mc0.hd t = hd0 := by unfold Mc.hd; split <;> rfl
  rw [e]; simp [opsOf, mc0, hd0], fun t ht => by
  have e : mc0.hd t = hd0 := by unfold Mc.hd; split <;> rfl
  rw [e]; simp [hd0], Int.le_refl _⟩
theorem opsOf_set (h : List Call) (i : Nat) (x x' : Call) (hx : h[i]? = some x) (h1 : x'.1 = x.1) (h2 : x'.2.2.1 = x.2.2.1) (t : Int) : opsOf (h.set i x') t = opsOf h t := by
 have key : ∀ l : List Call, opsOf l t = ((l.map fun x => (x.1, x.2.2.1)).filter fun p => decide (p.1 = t)).map Prod.snd := by
  intro l
  unfold opsOf
  rw [List.filter_map, List.map_map]; rfl
 rw [key, key]
 congr 2
 rw [List.map_set]
 refine List.ext_getElem? fun j => ?_
 by_cases he : i = j
 ·subst he
  have hl : i < (h.map fun x : Call => (x.1, x.2.2.1)).length := by rw [List.length_map]; exact (List.getElem?_eq_some_iff.1 hx).1
  rw [List.getElem?_set_self hl, List.getElem?_map, hx, h1, h2]; rfl
 ·rw [List.getElem?_set_ne he]
theorem opsOf_app (h : List Call) (x : Call) (t : Int) : opsOf (h ++ [x]) t = bif decide (x.1 = t) then opsOf h t ++ [x.2.2.1] else opsOf h t := by
 unfold opsOf
 rw [List.filter_append, List.map_append]
 by_cases hd : x.1 = t <;> simp [hd]
theorem take_snoc {l : List Int} {n : Nat} {x : Int} (h : l[n]? = some x) : l.take (n + 1) = l.take n ++ [x] := take_succ_get h
section
variable {c : Code} {u : Tab} {t : Nat} {m : Mc}
structure TB (c : Code) (u : Tab) (t : Nat) (m : Mc) : Prop where
 one : ∀ x ∈ (stB u t m).2.2.2.2.2.1, TC c (m.st + 1) x ∧ x.to ≤ 2 * m.st
 two : (stB u t m).2.2.2.2.2.1.Pairwise TR
 ops : opsOf (stB u t m).2.2.2.2.2.1 t = (u.getD t []).take ((m.hd t).cl.toNat + 1)
 oth : ∀ t' : Nat, t' ≠ t → opsOf (stB u t m).2.2.2.2.2.1 t' = opsOf m.h t'
 pre : ∀ k : Int, k ≤ m.st → untH (stB u t m).2.2.2.2.2.1 (2 * k) = untH m.h (2 * k)
theorem tc_mono {x : Call} {st : Int} (h : TC c st x) : TC c (st + 1) x := by
 obtain ⟨a, b, d, e, f, g⟩ := h
 refine ⟨a, b, d, e, ⟨f.1, by omega, f.2.2⟩, ?_⟩
 rcases g with g | g
 ·exact .inl g
 ·exact .inr ⟨g.1, by omega, g.2.2⟩
theorem tc_to {x : Call} {st : Int} (h0 : 0 ≤ st) (h : TC c st x) : x.to ≤ 2 * st := by
 obtain ⟨a, b, d, e, f, g⟩ := h
 rcases g with g | g <;> omega
theorem tb (hi : MInv c u m) (hT : TInv c u m) (ht : t < 2) (g : Go1 c u t m) : TB c u t m := by
 have H := hi.hd ht
 have hgd : u.getD t [] = g.w := getD_get g.hu
 have hst := hT.st0
 cases hin : (m.hd t).inn with
 | true =>
   have e : stB u t m = ((m.hd t).r0, (m.hd t).r1, (m.hd t).r2, (m.hd t).r3, (m.hd t).at_, m.h, m.ms) := by unfold stB beg; rw [hin]; rfl
   have ho := hT.ops t ht
   rw [hin] at ho
   exact ⟨fun x hx => by rw [e] at hx; exact ⟨tc_mono (hT.one x hx), tc_to hst (hT.one x hx)⟩, by rw [e]; exact hT.two, by rw [e]; exact ho, fun _ _ => by rw [e], fun _ _ => by rw [e]⟩
 | false =>
   have e : stB u t m = (0, 1, 0, 0, (m.h.length : Int), m.h ++ [((t : Int), 0, opOf u t (m.hd t).cl, 0, 2 * m.st + 1, 0)], m.ms ++ [0]) := by unfold stB beg; rw [hin]; rfl
   have eh : (stB u t m).2.2.2.2.2.1 = m.h ++ [((t : Int), 0, opOf u t (m.hd t).cl, 0, 2 * m.st + 1, 0)] := by rw [e]
   have ho := hT.ops t ht
   rw [hin] at ho
   simp only [cond_false, Nat.add_zero] at ho
   refine ⟨fun x hx => ?_, ?_, ?_, fun t' hne => ?_, fun k hk => ?_⟩
   ·rw [eh, List.mem_append, List.mem_singleton] at hx
    rcases hx with hx | rfl
    ·exact ⟨tc_mono (hT.one x hx), tc_to hst (hT.one x hx)⟩
    ·refine ⟨⟨⟨by show (0 : Int) ≤ t; omega, by show (t : Int) ≤ 1; omega⟩, rfl, ⟨g.op0, g.opc⟩, ⟨Int.le_refl _, by show (0 : Int) ≤ 9; decide⟩, ⟨by show 1 ≤ 2 * m.st + 1; omega, by show 2 * m.st + 1 ≤ 2 * (m.st + 1) - 1; omega, by show (2 * m.st + 1) % 2 = 1; omega⟩, .inl ⟨rfl, rfl⟩⟩, by show (0 : Int) ≤ 2 * m.st; omega⟩
   ·rw [eh, List.pairwise_append]
    refine ⟨hT.two, List.pairwise_singleton _ _, fun x hx y hy => ?_⟩
    rw [List.mem_singleton] at hy; subst hy
    have h1 := hT.one x hx
    have h2 := tc_to hst h1
    obtain ⟨_, _, _, _, f, _⟩ := h1
    refine ⟨by show x.fr < 2 * m.st + 1; omega, fun h => h, fun hth => ?_⟩
    refine ⟨fun h0 => ?_, by show x.to < 2 * m.st + 1; omega⟩
    obtain ⟨i, hlt, rfl⟩ := List.mem_iff_getElem.1 hx
    have := (H.uniq i _ (List.getElem?_eq_getElem hlt) hth h0).1
    rw [hin] at this; cases this
   ·rw [eh, opsOf_app, ho, decide_eq_true rfl, cond_true, hgd]
    exact (take_snoc g.hw).symm
   ·rw [eh, opsOf_app, decide_eq_false (by show ¬ (t : Int) = t'; omega)]; rfl
   ·rw [eh]
    unfold untH
    rw [List.filter_append, List.map_append]
    have : decide (Call.fr ((t : Int), 0, opOf u t (m.hd t).cl, 0, 2 * m.st + 1, 0) ≤ 2 * k) = false := decide_eq_false (by show ¬ 2 * m.st + 1 ≤ 2 * k; omega)
    simp [List.filter_cons, this]
theorem tinv_step (hi : MInv c u m) (hT : TInv c u m) (ht : t < 2) (g : Go1 c u t m) :
  TInv c u (stepM c u [] t m) ∧ ∀ k : Int, k ≤ m.st → untH (stepM c u [] t m).h (2 * k) = untH m.h (2 * k) := by
 have B := binv (u := u) hi ht
 have T := tb hi hT ht g
 have hst := hT.st0
 obtain ⟨x, hx, hx1, hx2, hx3⟩ := B.here
 obtain ⟨d0, d1, d2, d3⟩ := B.reg
 obtain ⟨e0, e1, e2⟩ := hi.cel
 have hgd : u.getD t [] = g.w := getD_get g.hu
 have hcl := g.cll
 have hcl0 := g.cl0
 have hhd : (stepM c u [] t m).hd t = stH c u t m := by unfold Mc.hd stepM; simp only; split <;> rfl
 have hho : ∀ t' : Nat, t' < 2 → t' ≠ t → (stepM c u [] t m).hd t' = m.hd t' := by
  intro t' h2 hne
  match t, t', ht, h2, hne with
  | 0, 1, _, _, _ => rfl
  | 1, 0, _, _, _ => rfl
  | 0, 0, _, _, he => exact absurd rfl he
  | 1, 1, _, _, he => exact absurd rfl he
 by_cases h7 : (stL c u t m).1 = 7
 ·have e : stX c u t m = _ := xLn_7 (st := m.st + 1) (cl := (m.hd t).cl) (ln := (m.hd t).ln) (r0 := (stB u t m).1) (r1 := (stB u t m).2.1) (r2 := (stB u t m).2.2.1) (r3 := (stB u t m).2.2.2.1) (c0 := m.c0) (c1 := m.c1) (c2 := m.c2) h7 hx
  have eh : (stepM c u [] t m).h = (stB u t m).2.2.2.2.2.1.set (stB u t m).2.2.2.2.1.toNat (x.1, x.2.1, x.2.2.1, rg4 (stB u t m).1 (stB u t m).2.1 (stB u t m).2.2.1 (stB u t m).2.2.2.1 (stL c u t m).2.1, x.2.2.2.2.1, 2 * (m.st + 1)) := by
   show (stX c u t m).2.2.2.2.2.2.2.2.2 = _; rw [e]
  have ecl : (stH c u t m).cl = (m.hd t).cl + 1 := by show (stX c u t m).1 = _; rw [e]
  have ein : (stH c u t m).inn = false := by show (!decide ((stL c u t m).1 = 7)) = false; rw [decide_eq_true h7]; rfl
  have hdg := rg4_dg (i := (stL c u t m).2.1) d0 d1 d2 d3
  generalize rg4 (stB u t m).1 (stB u t m).2.1 (stB u t m).2.2.1 (stB u t m).2.2.2.1 (stL c u t m).2.1 = v at eh hdg
  have hxm := T.one x (List.mem_of_getElem? hx)
  generalize hI : (stB u t m).2.2.2.2.1.toNat = I at eh hx
  have hlt : I < (stB u t m).2.2.2.2.2.1.length := (List.getElem?_eq_some_iff.1 hx).1
  obtain ⟨⟨q1, q2, q3, q4, q5, q6⟩, q7⟩ := hxm
  have hnew : TC c (m.st + 1) (x.1, x.2.1, x.2.2.1, v, x.2.2.2.2.1, 2 * (m.st + 1)) := by
   refine ⟨q1, q2, q3, hdg, q5, .inr ⟨?_, Int.le_refl _, ?_⟩⟩
   ·show x.2.2.2.2.1 < 2 * (m.st + 1); have := q5.2.1; simp only [Call.fr] at this; omega
   ·show (2 * (m.st + 1)) % 2 = 0; omega
  refine ⟨⟨fun y hy => ?_, ?_, fun t' ht' => ?_, fun t' ht' => ?_, by rw [step_st]; omega⟩, fun k hk => ?_⟩
  ·rw [eh] at hy
   rw [step_st]
   rcases List.mem_or_eq_of_mem_set hy with hy | rfl
   ·exact (T.one y hy).1
   ·exact hnew
  ·rw [eh, List.pairwise_iff_getElem]
   intro i j hi' hj' hij
   rw [List.length_set] at hi' hj'
   have hP := (List.pairwise_iff_getElem.1 T.two) i j hi' hj' hij
   have hmi := (T.one _ (List.getElem_mem hi')).2
   have hmj := (T.one _ (List.getElem_mem hj')).2
   rw [List.getElem_set, List.getElem_set]
   by_cases hIi : I = i
   ·have hIj : ¬ I = j := by omega
    rw [if_pos hIi, if_neg hIj]
    subst hIi
    have hxe : (stB u t m).2.2.2.2.2.1[I] = x := (List.getElem?_eq_some_iff.1 hx).2
    rw [hxe] at hP
    refine ⟨hP.1, fun _ => ?_, fun hth => absurd hx3 (hP.2.2 hth).1⟩
    show 2 * (m.st + 1) ≠ _; omega
   ·rw [if_neg hIi]
    by_cases hIj : I = j
    ·rw [if_pos hIj]
     subst hIj
     have hxe : (stB u t m).2.2.2.2.2.1[I] = x := (List.getElem?_eq_some_iff.1 hx).2
     rw [hxe] at hP
     refine ⟨hP.1, fun _ => ?_, hP.2.2⟩
     show _ ≠ 2 * (m.st + 1); omega
    ·rw [if_neg hIj]; exact hP
  ·rw [eh, opsOf_set _ _ x (x.1, x.2.1, x.2.2.1, v, x.2.2.2.2.1, 2 * (m.st + 1)) hx rfl rfl]
   by_cases he : t' = t
   ·subst he
    rw [hhd, ecl, ein, T.ops]
    congr 1
    simp only [cond_false]; omega
   ·rw [hho t' ht' he, T.oth t' he, hT.ops t' ht']
  ·by_cases he : t' = t
   ·subst he
    rw [hhd, ecl, ein, hgd]
    simp only [cond_false]; omega
   ·rw [hho t' ht' he]; exact hT.le t' ht'
  ·rw [← T.pre k hk, eh]

   have hcut : cutC (2 * k) (x.1, x.2.1, x.2.2.1, v, x.2.2.2.2.1, 2 * (m.st + 1)) = cutC (2 * k) x := by
    have hx0 : x.to = 0 := hx3
    have hs0 : x.sa = 0 := by rcases q6 with h | h <;> omega
    unfold cutC
    rw [show decide (2 * k < Call.to (x.1, x.2.1, x.2.2.1, v, x.2.2.2.2.1, 2 * (m.st + 1))) = true from decide_eq_true (by show 2 * k < 2 * (m.st + 1); omega)]
    rw [cond_true]
    have : x = (x.1, x.2.1, x.2.2.1, 0, x.2.2.2.2.1, 0) := by
     obtain ⟨a1, a2, a3, a4, a5, a6⟩ := x
     simp only [Call.to, Call.sa] at hx0 hs0
     subst hx0 hs0; rfl
    cases decide (2 * k < x.to) with
    | true => rfl
    | false => exact this.symm
   have key : ∀ (l : List Call) (i : Nat), l[i]? = some x → untH (l.set i (x.1, x.2.1, x.2.2.1, v, x.2.2.2.2.1, 2 * (m.st + 1))) (2 * k) = untH l (2 * k) := by
    intro l
    induction l with
    | nil => intro i hi'; simp at hi'
    | cons y r ih =>
      intro i hi'
      cases i with
      | zero =>
        simp at hi'; subst hi'
        rw [List.set_cons_zero]
        unfold untH
        rw [List.filter_cons, List.filter_cons]
        show List.map _ (if decide (y.fr ≤ 2 * k) = true then _ else _) = List.map _ (if decide (y.fr ≤ 2 * k) = true then _ else _)
        cases decide (y.fr ≤ 2 * k) with
        | true => simp only [if_true, List.map_cons, hcut]
        | false => rfl
      | succ i =>
        have := ih i (by simpa using hi')
        rw [List.set_cons_succ]
        unfold untH at this ⊢
        rw [List.filter_cons, List.filter_cons]
        cases decide (y.fr ≤ 2 * k) with
        | true => simp only [if_true, List.map_cons, this]
        | false => exact this
   exact key _ _ hx
 ·obtain ⟨q1, _, _, _, q5⟩ := xLn_ne7 (st := m.st + 1) (cl := (m.hd t).cl) (ln := (m.hd t).ln) (at_ := (stB u t m).2.2.2.2.1) (h := (stB u t m).2.2.2.2.2.1) (okCall_line g.call g.hl) h7 d0 d1 d2 d3 e0 e1 e2
  have ecl : (stH c u t m).cl = (m.hd t).cl := q1
  have eh : (stepM c u [] t m).h = (stB u t m).2.2.2.2.2.1 := q5
  have ein : (stH c u t m).inn = true := by show (!decide ((stL c u t m).1 = 7)) = true; rw [decide_eq_false h7]; rfl
  refine ⟨⟨fun y hy => ?_, by rw [eh]; exact T.two, fun t' ht' => ?_, fun t' ht' => ?_, by rw [step_st]; omega⟩, fun k hk => by rw [eh]; exact T.pre k hk⟩
  ·rw [eh] at hy; rw [step_st]; exact (T.one y hy).1
  ·rw [eh]
   by_cases he : t' = t
   ·subst he; rw [hhd, ecl, ein, T.ops]; rfl
   ·rw [hho t' ht' he, T.oth t' he, hT.ops t' ht']
  ·by_cases he : t' = t
   ·subst he
    rw [hhd, ecl, ein, hgd]
    simp only [cond_true]; omega
   ·rw [hho t' ht' he]; exact hT.le t' ht'
end
end Go.Am

set_option maxRecDepth 100000
set_option maxHeartbeats 1000000
set_option linter.unusedVariables false
set_option linter.unusedSimpArgs false
set_option linter.unusedSectionVars false
namespace Go.Am
open Go
section
variable {c : Code} {u : Tab} (hv : vCode c = true) (hu : vUse c u = true)
include hv hu
end
end Go.Am

set_option maxRecDepth 100000
set_option maxHeartbeats 1000000
set_option linter.unusedVariables false
set_option linter.unusedSimpArgs false
set_option linter.unusedSectionVars false
namespace Go.Am
open Go
def isCaseB (s : Spec) (c : Code) (u : Tab) : Bool := !largeX s c u && (vCode c && (specOk s && (decide (s.2.1 = (c.length : Int)) && vUse c u)))
theorem C23_eq (s : Spec) (hs : TabOk s.2.2.1 ∧ TabOk s.2.2.2) (c : Code) (hc : CodeOk c) (u : Tab) (hu : TabOk u) : C23 Ar.std s.1 s.2.1 (eTab s.2.2.1) (eTab s.2.2.2) (eCode c) (eTab u) = some (isCaseB s c u) := by
 unfold C23 isCaseB
 refine bt (bt (C9_eq s hs c hc u hu) ?_) rfl
 cases largeX s c u with
 | true => rfl
 | false =>
   refine cnF rfl (bt (C16_eq c hc) ?_)
   cases vCode c with
   | false => rfl
   | true =>
     refine cnT rfl (bt (C58_eq s hs.1 hs.2) ?_)
     cases specOk s with
     | false => rfl
     | true =>
       refine cnT rfl ?_
       rw [len_eCode]
       cases hd : decide (s.2.1 = (c.length : Int)) with
       | false => exact cnF hd rfl
       | true => exact cnT hd (bt (C43_eq c hc u hu) rfl)
section
variable {c : Code} (hc : CodeOk c) {u : Tab} (hu' : TabOk u) (hv : vCode c = true) (hu : vUse c u = true)
include hc hu' hv hu
end
end Go.Am

set_option maxRecDepth 100000
set_option maxHeartbeats 2000000
set_option linter.unusedVariables false
set_option linter.unusedSimpArgs false
set_option linter.unusedSectionVars false
namespace Go.Am
open Go
section
variable {c : Code} {u : Tab} (hv : vCode c = true) (hu : vUse c u = true)
include hv hu
theorem endsM_sw {a b : Int} (ha : isCel a = true) (hb : isCel b = true) : ∀ (k : Nat) (m : Mc), MInv c u m → endsM (swC a b c) u [] k (swM a b m) = (endsM c u [] k m).map (swM a b)
 | 0, m, _ => rfl
 | k + 1, m, hi => by
   unfold endsM
   rw [show leftM u (swM a b m) = leftM u m from rfl]
   cases (leftM u m).isEmpty with
   | true => rfl
   | false =>
     rw [cond_false, cond_false, List.map_flatMap]
     refine flatMap_cong fun t ht => ?_
     have hm := leftM_has ht
     have h0 : 0 ≤ t := by simp only [hasM, Bool.and_eq_true, btw_true] at hm; omega
     obtain ⟨T, rfl⟩ := Int.eq_ofNat_of_zero_le h0
     obtain ⟨h2, ⟨g⟩⟩ := go1 hv hu hi hm
     rw [Int.toNat_natCast, stepM_sw ha hb [] (okCall_line g.call g.hl)]
     exact endsM_sw ha hb k _ (minv_step [] hi h2 g)
theorem endsM_inv : ∀ (k : Nat) (m : Mc), MInv c u m → TInv c u m → ∀ e ∈ endsM c u [] k m, MInv c u e ∧ TInv c u e ∧ e.st ≤ m.st + k
 | 0, m, hi, hT, e, he => by
   rw [show endsM c u [] 0 m = [m] from rfl, List.mem_singleton] at he
   subst he; exact ⟨hi, hT, by omega⟩
 | k + 1, m, hi, hT, e, he => by
   unfold endsM at he
   cases hl : (leftM u m).isEmpty with
   | true =>
     rw [hl, cond_true, List.mem_singleton] at he
     subst he; exact ⟨hi, hT, by omega⟩
   | false =>
     rw [hl, cond_false, List.mem_flatMap] at he
     obtain ⟨t, ht, he⟩ := he
     have hm := leftM_has ht
     have h0 : 0 ≤ t := by simp only [hasM, Bool.and_eq_true, btw_true] at hm; omega
     obtain ⟨T, rfl⟩ := Int.eq_ofNat_of_zero_le h0
     obtain ⟨h2, ⟨g⟩⟩ := go1 hv hu hi hm
     rw [Int.toNat_natCast] at he
     obtain ⟨q1, q2, q3⟩ := endsM_inv k _ (minv_step [] hi h2 g) (tinv_step hi hT h2 g).1 e he
     rw [step_st] at q3
     exact ⟨q1, q2, by omega⟩
theorem gh_of {m : Mc} (hi : MInv c u m) (hT : TInv c u m) (hs : m.st ≤ 12) : GH m.h := by
 refine ⟨by have := hi.st; omega, fun x hx => ?_⟩
 obtain ⟨a, b, d, e, f, g⟩ := hT.one x hx
 have hc : (c.length : Int) ≤ 4 := by simp only [vCode, Bool.and_eq_true, btw_true] at hv; exact hv.1.2
 unfold dg at e
 unfold GC
 rcases g with g | g <;> omega
end
theorem endsM_pos {c : Code} {u : Tab} {mks : List Int} : ∀ (k : Nat) (m : Mc), 1 ≤ (endsM c u mks k m).length
 | 0, m => Nat.le_refl _
 | k + 1, m => by
   unfold endsM
   cases hl : leftM u m with
   | nil => exact Nat.le_refl _
   | cons t r =>
     have := endsM_pos (c := c) (u := u) (mks := mks) k (stepM c u mks t.toNat m)
     show 1 ≤ (List.flatMap _ (t :: r)).length
     rw [List.flatMap_cons, List.length_append]; omega
theorem endsM_mono {c : Code} {u : Tab} {mks : List Int} : ∀ (k : Nat) (m : Mc), (endsM c u mks k m).length ≤ (endsM c u mks (k + 1) m).length
 | 0, m => endsM_pos 1 m
 | k + 1, m => by
   rw [show endsM c u mks (k + 1) m = bif (leftM u m).isEmpty then [m] else (leftM u m).flatMap fun t => endsM c u mks k (stepM c u mks t.toNat m) from rfl,
    show endsM c u mks (k + 1 + 1) m = bif (leftM u m).isEmpty then [m] else (leftM u m).flatMap fun t => endsM c u mks (k + 1) (stepM c u mks t.toNat m) from rfl]
   cases (leftM u m).isEmpty with
   | true => exact Nat.le_refl _
   | false =>
     rw [cond_false, cond_false]
     generalize leftM u m = l
     induction l with
     | nil => exact Nat.le_refl _
     | cons t r ih =>
       have := endsM_mono (c := c) (u := u) (mks := mks) k (stepM c u mks t.toNat m)
       rw [List.flatMap_cons, List.flatMap_cons, List.length_append, List.length_append]; omega
theorem his_map : ∀ (l : List (List D)), (∀ x ∈ l, ∃ h, GH h ∧ eCalls h = x) → ∃ ss : List (List Call), ss.map eCalls = l ∧ ∀ h ∈ ss, GH h
 | [], _ => ⟨[], rfl, fun h hh => by cases hh⟩
 | x :: l, hx => by
   obtain ⟨h, h1, h2⟩ := hx x (by simp)
   obtain ⟨ss, h3, h4⟩ := his_map l (fun y hy => hx y (by simp [hy]))
   exact ⟨h :: ss, by rw [List.map_cons, h2, h3], fun y hy => by
    rcases List.mem_cons.1 hy with rfl | hy
    ·exact h1
    ·exact h4 y hy⟩
theorem scalHis (l : List (List Call)) : loose (eHis l) = true := by
 have : lists1 (eHis l) = true := by
  unfold eHis lists1 enc
  rw [List.all_map, List.all_map, List.all_eq_true]
  intro x _; exact scalCalls x
 unfold loose
 rw [this, Bool.or_true]
theorem sorted_once (hs : List (List Call)) (h1 : 1 ≤ hs.length) (h2 : hs.length ≤ 100000) (hg : ∀ h ∈ hs, GH h) :
  ∃ ss : List (List Call), 1 ≤ ss.length ∧ ss.length ≤ hs.length ∧ (∀ h ∈ ss, GH h) ∧
    ∃ (r20 : List D) (n : Int) (r24 : List D), C94a Ar.std 0 (Ar.std.len (eHis hs)) 0 (Ar.std.len (eHis hs)) (eHis hs) = some r20 ∧ C98 Ar.std 0 (Ar.std.len (eHis hs)) 0 (Ar.std.len (eHis hs)) r20 = some (0, n, r24) ∧ fz Ar.std r24 0 n = some (eHis ss) := by
 have hlen := lenHis hs
 have hcmp := cmpOk hs hg
 obtain ⟨s0, e0, g0⟩ := his_map ((hs.map eCalls).mergeSort fun x y => !ltF (fun a0 b0 => C95 Ar.std a0 b0) y x) (fun x hx => by
  rw [List.mem_mergeSort] at hx
  obtain ⟨h, hh, rfl⟩ := List.mem_map.1 hx
  exact ⟨h, hg h hh, rfl⟩)
 have hl0 : s0.length = hs.length := by
  have := congrArg List.length e0
  rw [List.length_map, List.length_mergeSort, List.length_map] at this
  exact this
 have e94 : C94a Ar.std 0 (Ar.std.len (eHis hs)) 0 (Ar.std.len (eHis hs)) (eHis hs) = some (eHis s0) := by
  unfold C94a
  rw [hlen]
  have := srt_eq (c := cL 6) (f := fun a0 b0 => C95 Ar.std a0 b0) (n := (hs.length : Int)) (xs := hs.map eCalls) (by rw [List.length_map]) (by omega) hcmp
  rw [← e0] at this
  exact this
 obtain ⟨k, l', k1, k2, k3, e98⟩ := C98_ok h2 h1 (l := s0) ⟨hl0, g0⟩ 0 (hs.length : Int)
 have hll := k3.1
 refine ⟨l'.take k, by rw [List.length_take]; omega, by rw [List.length_take]; omega, fun h hh => k3.2 h (List.mem_of_mem_take hh), _, _, _, e94, by rw [hlen]; exact e98, ?_⟩
 unfold fz
 have hz : Ar.std.zle (Ar.std.zadd 0 (k : Int)) (Ar.std.len (eHis l')) = true := by rw [lenHis]; simp; omega
 rw [hz, cond_true]
 simp only [std_zadd, std_sub, Int.zero_add, Int.toNat_zero, List.drop_zero, Nat.sub_zero, Int.toNat_natCast]
 unfold eHis enc
 rw [← List.map_take, ← List.map_take]
theorem C40_same (l : List (List Call)) (h2 : l.length ≤ 100000) (hg : ∀ h ∈ l, GH h) : C40 Ar.std (eHis l) (eHis l) = some true := by
 have e := iter_rel (step := C40L0 Ar.std (eHis l) (eHis l)) l.length (fun (_ : Unit) (i : Nat) => (i : Int)) (fun _ _ => True) (fun _ => .inl ())
  (fun i s hi _ => by
   have hx : l[i]? = some l[i] := List.getElem?_eq_getElem hi
   have hgx := hg _ (List.mem_of_getElem? hx)
   have hgt : gt Ar.std (cL 6) (eHis l) (i : Int) = some (eCalls l[i]) := by unfold eHis; exact gt_enc_map hx
   refine ⟨(), trivial, ?_⟩
   unfold C40L0
   have hll : l[i].length < Lg := Nat.lt_of_le_of_lt hgx.1 (by show 100 < 9223372036854775808; decide)
   refine cnT (by rw [lenHis]; simp; omega) (bt hgt (bt hgt (bt (C17_same _ hll) (cnT rfl ?_))))
   simp only [std_wrp, std_zadd, wrap1 (i := i) (n := 100000) (by omega) (by decide)])
  (fun s _ => by unfold C40L0; exact cnF (by rw [lenHis]; simp) rfl) () trivial
 obtain ⟨_, _, e⟩ := e
 unfold C40
 exact cnT (by simp) (bt e rfl)
theorem C38_of (hs : List (List Call)) (h1 : 1 ≤ hs.length) (h2 : hs.length ≤ 100000) (hg : ∀ h ∈ hs, GH h) :
  ∃ ss : List (List Call), 1 ≤ ss.length ∧ ss.length ≤ hs.length ∧ (∀ h ∈ ss, GH h) ∧
    ∀ (c : Code), CodeOk c → ∀ (u : Tab), TabOk u → vCode c = true → vUse c u = true → ∀ k : Nat, k ≤ 12 → (endsM c u [] k mc0).map Mc.h = hs → C38 Ar.std (eCode c) (eTab u) (k : Int) = some (eHis ss, 0) := by
 obtain ⟨ss, a1, a2, a3, r20, n, r24, b1, b2, b3⟩ := sorted_once hs h1 h2 hg
 refine ⟨ss, a1, a2, a3, fun c hc u hut hv hu k hk he => ?_⟩
 unfold C38
 refine bt (C89_eq c hc u hut) ?_
 rw [codeE0 hc hut hv hu hk]
 refine cnT rfl (bt (C84_ok hc hut hv hu hk) (cnT rfl (bt (v := (eCode c, eTab u)) rfl (bt (C85_ok hc hut hv hu hk) ?_))))
 rw [he]
 refine cnT (by rw [lenHis]; simp; omega) (bt (v := ()) (by rw [scalHis]; rfl) (bt b1 (bt b2 (bt b3 rfl))))
theorem rem3 (a : Int) (ha : 0 ≤ a ∧ a < 256) : isCel (Ar.std.rem (Ar.std.wrp .i64 a) 3) = true := by
 have hq : (a : Int).tmod 3 = a % 3 := Int.tmod_eq_emod_of_nonneg ha.1
 have hw : IntKind.i64.wrap a = a := i64w _ (by omega) (by omega)
 rw [std_wrp, hw, std_rem, hq]
 simp [isCel, btw]; omega
theorem C8_ok (s : Spec) (hs : TabOk s.2.2.1 ∧ TabOk s.2.2.2) (c : Code) (hc : CodeOk c) (u : Tab) (hu' : TabOk u) (a b n : Int) (ha : 0 ≤ a ∧ a < 256) (hb : 0 ≤ b ∧ b < 256) (hn : 0 ≤ n ∧ n < 256) :
  C8 Ar.std s.1 s.2.1 (eTab s.2.2.1) (eTab s.2.2.2) (eCode c) (eTab u) a b n = some true := by
 unfold C8
 refine bt (C23_eq s hs c hc u hu') ?_
 cases hcase : isCaseB s c u with
 | false => exact cnF rfl (bt C10_eq rfl)
 | true =>
   simp only [isCaseB, Bool.and_eq_true] at hcase
   obtain ⟨_, hv, _, _, hu⟩ := hcase
   have ra := rem3 a ha
   have rb := rem3 b hb
   generalize Ar.std.rem (Ar.std.wrp .i64 a) 3 = a' at ra ⊢
   generalize Ar.std.rem (Ar.std.wrp .i64 b) 3 = b' at rb ⊢
   have hq : n.tmod 12 = n % 12 := Int.tmod_eq_emod_of_nonneg hn.1
   have hw : IntKind.i64.wrap n = n := i64w _ (by omega) (by omega)
   have hk : Ar.std.rem (Ar.std.wrp .i64 n) 12 = (((n % 12).toNat : Nat) : Int) := by rw [std_wrp, hw, std_rem, hq]; omega
   rw [hk]
   have hk12 : (n % 12).toNat ≤ 11 := by omega
   generalize (n % 12).toNat = k at hk12 ⊢
   have hv' : vCode (swC a' b' c) = true := by rw [vCode_sw ra rb]; exact hv
   have hu2 : vUse (swC a' b' c) u = true := by rw [vUse_sw]; exact hu
   have e1 : swR c a' b' = (swC a' b' c, 0) := by unfold swR; rw [hv, ra, rb]; rfl
   have e2 : swR (swC a' b' c) a' b' = (c, 0) := by unfold swR; rw [hv', ra, rb, swC_swC]; rfl
   have hc' : CodeOk (swC a' b' c) := by have := swR_ok hc a' b'; rw [e1] at this; exact this
   have f1 := C29_eq hc a' b'
   rw [e1] at f1
   have f2 := C29_eq hc' a' b'
   rw [e2] at f2
   have h12 := endsM_len (c := c) (mks := []) (ulen [] (.inl rfl) hv hu) k mc0
   have hp : 2 ^ k ≤ 2 ^ 12 := Nat.pow_le_pow_right (by omega) (by omega)
   obtain ⟨ss, s1, s2, s3, s4⟩ := C38_of ((endsM c u [] k mc0).map Mc.h) (by rw [List.length_map]; exact endsM_pos k mc0) (by rw [List.length_map]; omega) (fun h hh => by
    obtain ⟨e, he, rfl⟩ := List.mem_map.1 hh
    obtain ⟨q1, q2, q3⟩ := endsM_inv hv hu k mc0 (minv0 c u) (tinv0 c u) e he
    exact gh_of hv hu q1 q2 (by have : mc0.st = 0 := rfl; omega))
   rw [List.length_map] at s2
   have g1 := s4 c hc u hu' hv hu k (by omega) rfl
   have g2 := s4 (swC a' b' c) hc' u hu' hv' hu2 k (by omega) (by
    have := endsM_sw hv hu ra rb k mc0 (minv0 c u)
    rw [swM_0 ra rb] at this
    rw [this, List.map_map]; rfl)
   have k1 := C36_ok hc hu' hv hu (k := k) (by omega)
   have k2 := C36_ok hc hu' hv hu (k := k + 1) (by omega)
   have hk1 : Ar.std.wrp .i64 (Ar.std.zadd (k : Int) 1) = ((k + 1 : Nat) : Int) := by rw [std_wrp, std_zadd, wrap1 (n := 100) (by omega) (by decide)]
   have hm := endsM_mono (c := c) (u := u) (mks := []) k mc0
   have hpos := endsM_pos (c := c) (u := u) (mks := []) k mc0
   have t1 : nk (Ar.std.zeq 12 0) = some () := rfl
   have t2 : nk (Ar.std.zeq 3 0) = some () := rfl
   refine cnT rfl (bt t1 (bt t2 (bt t2 (bt f1 (bt t2 (bt t2 (bt f2 (bt g1 (bt g2 (bt (v := false) ?_ ?_))))))))))
   ·exact cnT rfl (cnT rfl (cnT rfl (cnT rfl (bt (C31_same c hc) (cnT rfl (bt (C40_same ss (by omega) s3) rfl))))))
   ·refine cnF rfl (bt k1 ?_)
    rw [hk1]
    refine bt k2 (bt (v := true) ?_ rfl)
    exact cnT rfl (cnT rfl (cnT (by simp; omega) (cnT (by simp; omega) (cnT (by rw [lenHis]; simp; omega) (cnT (by rw [lenHis]; simp; omega) (bt C10_eq rfl))))))
end Go.Am
