/- Own text: Genw1. -/
import Derived.Test.YtcnplegmmmobcaaGenw0
set_option maxRecDepth 100000
set_option maxHeartbeats 2000000
set_option linter.unusedVariables false
set_option linter.unusedSimpArgs false
namespace Go.Am
open Go Go.Proofs
theorem R69Bw {A : Ar} (hA : A = Ar.std) {self40 : Int → List D → List D → Int → Option (List D)} (ih40 : ∀ {x1 : Int} {x2 : List D} {x3 : List D} {x4 : Int} {y1 : List D}, self40 x1 x2 x3 x4 = some y1 → ACall Try.prog 69 [(.d (.agg [(.int .i64 x1), (.list 3 x2)])), (.d (.list 1 x3)), (.d (.int .i64 x4))] [] (.own 1 y1) []) {x1 : Int} {x2 : List D} {x3 : List D} {x4 : Int} {v46 : List D} (h : R69B A self40 x1 x2 x3 x4 = some v46) : ACall Try.prog 69 [(.d (.agg [(.int .i64 x1), (.list 3 x2)])), (.d (.list 1 x3)), (.d (.int .i64 x4))] [] (.own 1 v46) [] := by
  unfold R69B at h
  refine ACall.enter hT (fn := Try.f69) Try.func69 rfl (by decide) (by simp [Try.f69]) rfl rfl rfl rfl (lb rfl) ?_
  refine AWp.seq ?_
  refine AWp.rg hT hA {} (by cbv) (lb rfl) ?_
  refine nT ?_
  refine AWp.seq ?_
  refine AWp.seq ?_
  refine AWp.region ?_
  obtain ⟨r6, e5, h⟩ := bindS h
  refine AOps.cc hT hA {} (by cbv) (lb rfl) (R64w hA e5) rfl (.inl rfl) rfl rfl rfl (lb rfl) rfl rfl ?_
  refine AOps.cd hT hA {} (by cbv) (lb rfl) ?_
  refine nT ?_
  rcases tf (A.zeq r6 0) with c7 | c7
  · replace h := cT c7 h
    refine AWp.cdT rfl (by first | rfl | simp only [c7, Bool.not_true, Bool.not_false, cond_true, cond_false]) ?_
    refine AWp.seq ?_
    refine AWp.rg hT hA {} (by (repeat (cbv; simp only [c7])); first | done | cbv) (lb rfl) ?_
    refine nT ?_
    refine AWp.ret ?_
    refine rT ?_
    cases soI h
    exact ⟨rfl, rfl, rfl, lb rfl, _, rfl⟩
  · replace h := cF c7 h
    refine AWp.cdF rfl (by first | rfl | simp only [c7, Bool.not_true, Bool.not_false, cond_true, cond_false]) ?_
    refine AWp.skip ?_
    refine nT ?_
    refine AWp.seq ?_
    refine AWp.rg hT hA { tk := [14] } (by (repeat (cbv; simp only [c7])); first | done | cbv) (lb rfl) ?_
    refine nT ?_
    refine AWp.seq ?_
    refine AWp.seq ?_
    refine AWp.rg hT hA {} (by (repeat (cbv; simp only [c7])); first | done | cbv) (lb rfl) ?_
    refine nT ?_
    refine AWp.block ?_
    obtain ⟨xK45, hxK45, K45, hK45, hkK45⟩ := bindK h
    refine AWp.cutX 0 [7] [] 0 (lb rfl) (fun τ => ∃ v44, K45 v44 = some v46 ∧ τ = { env := [(7, (.own 1 v44))], heap := [], n := 36 }) ?_ ?_
    · skip
      refine AWp.iter hxK45 [1, 2, 3, 7, 8] [] 0 (lb rfl) (fun (v24, v25) => { env := [(1, (.d (.list 1 x3))), (2, (.d (.int .i64 x4))), (3, (.lbox [(.d (.int .i64 x1)), (.d (.list 3 x2))])), (7, (.own 1 v24)), (8, (.d (.int .i64 v25)))], heap := [], n := 36 }) ⟨rfl, (by first | (cbv; done) | ((repeat (cbv; simp only [c7])); first | done | cbv))⟩ ?_
      rintro ⟨v24, v25⟩ eK45 hsK45
      dsimp only [R69L0] at hsK45
      refine AWp.seq ?_
      refine AWp.seq ?_
      obtain ⟨v27, hvK28, hsK45⟩ := bindS hsK45
      refine AWp.cutN [1, 2, 3, 7, 8, 20] [] 0 (lb rfl) (fun τ => τ = { env := [(1, (.d (.list 1 x3))), (2, (.d (.int .i64 x4))), (3, (.lbox [(.d (.int .i64 x1)), (.d (.list 3 x2))])), (7, (.own 1 v24)), (8, (.d (.int .i64 v25))), (20, (.d (.bool v27)))], heap := [], n := 36 }) ?_ ?_
      · skip
        rcases tf (A.zle v25 3) with c26 | c26
        · replace hvK28 := cT c26 hvK28
          refine AWp.rg hT hA {} (by (repeat (cbv; simp only [c26])); first | done | cbv) (lb rfl) ?_
          cases soI hvK28
          exact oNi ⟨rfl, (by first | (cbv; done) | ((repeat (cbv; simp only [c26])); first | done | cbv))⟩
        · replace hvK28 := cF c26 hvK28
          refine AWp.rg hT hA {} (by (repeat (cbv; simp only [c26])); first | done | cbv) (lb rfl) ?_
          cases soI hvK28
          exact oNi ⟨rfl, (by first | (cbv; done) | ((repeat (cbv; simp only [c26])); first | done | cbv))⟩
      · rintro _ rfl
        refine nT ?_
        rcases tf v27 with c29 | c29
        · replace hsK45 := cT c29 hsK45
          refine AWp.cdT rfl (by first | rfl | simp only [c29, Bool.not_true, Bool.not_false, cond_true, cond_false]) ?_
          refine AWp.skip ?_
          refine nT ?_
          refine AWp.seq ?_
          refine AWp.block ?_
          refine AWp.regionDraw rfl (lb rfl) ?_
          obtain ⟨l30, e31, hsK45⟩ := bindS hsK45
          obtain ⟨f32, f33⟩ := apI e31
          obtain ⟨l34, e35, hsK45⟩ := bindS hsK45
          obtain ⟨f36, f37⟩ := apI e35
          obtain ⟨r39, e38, hsK45⟩ := bindS hsK45
          refine DOps.c0 hT hA { tk := [7, 34] } rfl (by (repeat (cbv; simp only [c29, f32, f33, f36, f37])); first | done | cbv) (ih40 e38) rfl rfl (lb rfl) rfl rfl ?_
          obtain ⟨l40, e41, hsK45⟩ := bindS hsK45
          obtain ⟨f42, f43⟩ := apI e41
          refine DOps.cd hT hA { tk := [7, 34] } rfl (by (repeat (cbv; simp only [c29, f32, f33, f36, f37, f42, f43])); first | done | cbv) (by kernel_rfl) ?_
          refine nB ?_
          refine nT ?_
          refine AWp.rg hT hA {} (by (repeat (cbv; simp only [c29])); first | done | cbv) (lb rfl) ?_
          exact nT ⟨_, (soI hsK45).symm, rfl, (by first | (cbv; done) | ((repeat (cbv; simp only [c29])); first | done | cbv))⟩
        · replace hsK45 := cF c29 hsK45
          refine AWp.cdF rfl (by first | rfl | simp only [c29, Bool.not_true, Bool.not_false, cond_true, cond_false]) ?_
          refine AWp.exit ?_
          refine xT ?_
          refine xT ?_
          refine exL hsK45 fun hx => ?_
          subst hx
          exact oxI ⟨rfl, _, hkK45, (by first | (cbv; done) | ((repeat (cbv; simp only [c29])); first | done | cbv))⟩
    · rintro _ ⟨v44, hkK45, rfl⟩
      have h := (hK45 _ hkK45)
      refine xB ?_
      refine nT ?_
      refine AWp.seq ?_
      refine AWp.rg hT hA { tk := [7, 35] } (by cbv) (lb rfl) ?_
      refine nT ?_
      refine AWp.ret ?_
      cases soI h
      exact ⟨rfl, rfl, rfl, lb rfl, _, rfl⟩

theorem R69Rw {A : Ar} (hA : A = Ar.std) : ∀ (n : Nat) {x1 : Int} {x2 : List D} {x3 : List D} {x4 : Int} {v46 : List D}, R69R A n x1 x2 x3 x4 = some v46 → ACall Try.prog 69 [(.d (.agg [(.int .i64 x1), (.list 3 x2)])), (.d (.list 1 x3)), (.d (.int .i64 x4))] [] (.own 1 v46) []
  | 0, _, _, _, _, _, h => by cases h
  | n + 1, _, _, _, _, _, h => R69Bw hA (fun h => R69Rw hA n h) h

theorem R69w {A : Ar} (hA : A = Ar.std) {x1 : Int} {x2 : List D} {x3 : List D} {x4 : Int} {v46 : List D} (h : R69 A x1 x2 x3 x4 = some v46) : ACall Try.prog 69 [(.d (.agg [(.int .i64 x1), (.list 3 x2)])), (.d (.list 1 x3)), (.d (.int .i64 x4))] [] (.own 1 v46) [] := R69Rw hA fuel h

theorem R21w {A : Ar} (hA : A = Ar.std) {x1 : Int} {x2 : List D} {x3 : Int} {v13 : List D} {v14 : Int} (h : R21 A x1 x2 x3 = some (v13, v14)) : ACall Try.prog 21 [(.d (.agg [(.int .i64 x1), (.list 3 x2)])), (.d (.int .i64 x3))] [] (.tuple [(.d (.list 1 v13)), (.d (.int .i64 v14))]) [] := by
  unfold R21 at h
  refine ACall.enter hT (fn := Try.f21) Try.func21 rfl (by decide) (by simp [Try.f21]) rfl rfl rfl rfl (lb rfl) ?_
  refine AWp.seq ?_
  refine AWp.rg hT hA {} (by cbv) (lb rfl) ?_
  refine nT ?_
  refine AWp.seq ?_
  refine AWp.seq ?_
  refine AWp.region ?_
  obtain ⟨r5, e4, h⟩ := bindS h
  refine AOps.cc hT hA {} (by cbv) (lb rfl) (R34w hA e4) rfl (.inl rfl) rfl rfl rfl (lb rfl) rfl rfl ?_
  refine AOps.cd hT hA {} (by cbv) (lb rfl) ?_
  refine nT ?_
  rcases tf r5 with c6 | c6
  · replace h := cT c6 h
    refine AWp.cdF rfl (by first | rfl | simp only [c6, Bool.not_true, Bool.not_false, cond_true, cond_false]) ?_
    refine AWp.skip ?_
    refine nT ?_
    refine AWp.seq ?_
    refine AWp.seq ?_
    obtain ⟨v8, hvK9, h⟩ := bindS h
    refine AWp.cutN [1, 2, 14] [] 0 (lb rfl) (fun τ => τ = { env := [(1, (.d (.int .i64 x3))), (2, (.lbox [(.d (.int .i64 x1)), (.d (.list 3 x2))])), (14, (.d (.bool v8)))], heap := [], n := 18 }) ?_ ?_
    · skip
      rcases tf (A.zlt x3 0) with c7 | c7
      · replace hvK9 := cT c7 hvK9
        refine AWp.rg hT hA {} (by (repeat (cbv; simp only [c6, c7])); first | done | cbv) (lb rfl) ?_
        cases soI hvK9
        exact oNi ⟨rfl, (by first | (cbv; done) | ((repeat (cbv; simp only [c6, c7])); first | done | cbv))⟩
      · replace hvK9 := cF c7 hvK9
        refine AWp.rg hT hA {} (by (repeat (cbv; simp only [c6, c7])); first | done | cbv) (lb rfl) ?_
        cases soI hvK9
        exact oNi ⟨rfl, (by first | (cbv; done) | ((repeat (cbv; simp only [c6, c7])); first | done | cbv))⟩
    · rintro _ rfl
      refine nT ?_
      rcases tf v8 with c10 | c10
      · replace h := cT c10 h
        refine AWp.cdT rfl (by first | rfl | simp only [c10, Bool.not_true, Bool.not_false, cond_true, cond_false]) ?_
        refine AWp.seq ?_
        refine AWp.rg hT hA {} (by (repeat (cbv; simp only [c10])); first | done | cbv) (lb rfl) ?_
        refine nT ?_
        refine AWp.ret ?_
        refine rT ?_
        cases soI h
        exact ⟨rfl, rfl, rfl, lb rfl, _, rfl⟩
      · replace h := cF c10 h
        refine AWp.cdF rfl (by first | rfl | simp only [c10, Bool.not_true, Bool.not_false, cond_true, cond_false]) ?_
        refine AWp.skip ?_
        refine nT ?_
        refine AWp.seq ?_
        refine AWp.region ?_
        obtain ⟨r12, e11, h⟩ := bindS h
        refine AOps.cc hT hA {} (by (repeat (cbv; simp only [c10])); first | done | cbv) (lb rfl) (R69w hA e11) rfl (.inl rfl) rfl rfl rfl (lb rfl) rfl rfl ?_
        refine AOps.cd hT hA {} (by (repeat (cbv; simp only [c10])); first | done | cbv) (lb rfl) ?_
        refine nT ?_
        refine AWp.ret ?_
        cases soI h
        exact ⟨rfl, rfl, rfl, lb rfl, _, rfl⟩
  · replace h := cF c6 h
    refine AWp.cdT rfl (by first | rfl | simp only [c6, Bool.not_true, Bool.not_false, cond_true, cond_false]) ?_
    refine AWp.seq ?_
    refine AWp.rg hT hA {} (by (repeat (cbv; simp only [c6])); first | done | cbv) (lb rfl) ?_
    refine nT ?_
    refine AWp.ret ?_
    refine rT ?_
    cases soI h
    exact ⟨rfl, rfl, rfl, lb rfl, _, rfl⟩

theorem R22w {A : Ar} (hA : A = Ar.std) {x1 : List D} {x2 : List D} {v30 : Bool} (h : R22 A x1 x2 = some v30) : ACall Try.prog 22 [(.d (.list 1 x1)), (.d (.list 1 x2))] [] (.d (.bool v30)) [] := by
  unfold R22 at h
  refine ACall.enter hT (fn := Try.f22) Try.func22 rfl (by decide) (by simp [Try.f22]) rfl rfl rfl rfl (lb rfl) ?_
  refine AWp.seq ?_
  refine AWp.rg hT hA {} (by cbv) (lb rfl) ?_
  refine nT ?_
  refine AWp.seq ?_
  refine AWp.seq ?_
  refine AWp.rg hT hA {} (by cbv) (lb rfl) ?_
  refine nT ?_
  rcases tf (A.zeq (A.len x1) (A.len x2)) with c3 | c3
  · replace h := cT c3 h
    refine AWp.cdF rfl (by first | rfl | simp only [c3, Bool.not_true, Bool.not_false, cond_true, cond_false]) ?_
    refine AWp.skip ?_
    refine nT ?_
    refine AWp.seq ?_
    refine AWp.seq ?_
    refine AWp.rg hT hA {} (by (repeat (cbv; simp only [c3])); first | done | cbv) (lb rfl) ?_
    refine nT ?_
    refine AWp.block ?_
    obtain ⟨xK29, hxK29, K29, hK29, hkK29⟩ := bindK h
    refine AWp.cutX 0 [] [] 0 (lb rfl) (fun τ => K29 (.inl ()) = some v30 ∧ τ = { env := [], heap := [], n := 27 }) ?_ ?_
    · skip
      refine AWp.iter hxK29 [0, 1, 12, 13] [] 0 (lb rfl) (fun v16 => { env := [(0, (.d (.list 1 x1))), (1, (.d (.list 1 x2))), (12, (.d (.int .i64 (A.len x1)))), (13, (.d (.int .i64 v16)))], heap := [], n := 27 }) ⟨rfl, (by first | (cbv; done) | ((repeat (cbv; simp only [c3])); first | done | cbv))⟩ ?_
      rintro v16 eK29 hsK29
      dsimp only [R22L0] at hsK29
      refine AWp.seq ?_
      refine AWp.rg hT hA {} (by cbv) (lb rfl) ?_
      refine nT ?_
      refine AWp.seq ?_
      rcases tf (A.zlt v16 (A.len x1)) with c17 | c17
      · replace hsK29 := cT c17 hsK29
        refine AWp.cdT rfl (by first | rfl | simp only [c17, Bool.not_true, Bool.not_false, cond_true, cond_false]) ?_
        refine AWp.skip ?_
        refine nT ?_
        refine AWp.seq ?_
        refine AWp.block ?_
        refine AWp.seq ?_
        refine AWp.rg hT hA {} (by (repeat (cbv; simp only [c17])); first | done | cbv) (lb rfl) ?_
        refine nT ?_
        refine AWp.seq ?_
        refine AWp.regionDraw rfl (lb rfl) ?_
        obtain ⟨a18, e19, hsK29⟩ := bindS hsK29
        obtain ⟨f20, f21⟩ := gtI e19
        obtain ⟨a22, e23, hsK29⟩ := bindS hsK29
        obtain ⟨f24, f25⟩ := gtI e23
        obtain ⟨r27, e26, hsK29⟩ := bindS hsK29
        refine DOps.c0 hT hA {} rfl (by (repeat (cbv; simp only [c17, f20, f21, f24, f25])); first | done | cbv) (R27w hA e26) rfl rfl (lb rfl) rfl rfl ?_
        refine DOps.cd hT hA {} rfl (by (repeat (cbv; simp only [c17, f20, f21, f24, f25])); first | done | cbv) (by kernel_rfl) ?_
        refine nT ?_
        rcases tf r27 with c28 | c28
        · replace hsK29 := cT c28 hsK29
          refine AWp.cdF rfl (by first | rfl | simp only [c17, c28, Bool.not_true, Bool.not_false, cond_true, cond_false]) ?_
          refine AWp.skip ?_
          refine nB ?_
          refine nT ?_
          refine AWp.rg hT hA {} (by (repeat (cbv; simp only [c17, c28])); first | done | cbv) (lb rfl) ?_
          exact nT ⟨_, (soI hsK29).symm, rfl, (by first | (cbv; done) | ((repeat (cbv; simp only [c17, c28])); first | done | cbv))⟩
        · replace hsK29 := cF c28 hsK29
          refine AWp.cdT rfl (by first | rfl | simp only [c17, c28, Bool.not_true, Bool.not_false, cond_true, cond_false]) ?_
          refine AWp.seq ?_
          refine AWp.rg hT hA {} (by (repeat (cbv; simp only [c17, c28])); first | done | cbv) (lb rfl) ?_
          refine nT ?_
          refine AWp.ret ?_
          refine rB ?_
          refine rT ?_
          refine rT ?_
          refine exL hsK29 fun hx => ?_
          subst hx
          refine oxR ?_
          replace hkK29 := (eR (hK29 _ hkK29))
          refine rB ?_
          refine rT ?_
          cases soI hkK29
          exact ⟨rfl, rfl, rfl, lb rfl, _, rfl⟩
      · replace hsK29 := cF c17 hsK29
        refine AWp.cdF rfl (by first | rfl | simp only [c17, Bool.not_true, Bool.not_false, cond_true, cond_false]) ?_
        refine AWp.exit ?_
        refine xT ?_
        refine xT ?_
        refine exL hsK29 fun hx => ?_
        subst hx
        exact oxI ⟨rfl, hkK29, (by first | (cbv; done) | ((repeat (cbv; simp only [c17])); first | done | cbv))⟩
    · rintro _ ⟨hkK29, rfl⟩
      have h := (eL (hK29 _ hkK29))
      refine xB ?_
      refine nT ?_
      refine AWp.seq ?_
      refine AWp.rg hT hA {} (by cbv) (lb rfl) ?_
      refine nT ?_
      refine AWp.ret ?_
      cases soI h
      exact ⟨rfl, rfl, rfl, lb rfl, _, rfl⟩
  · replace h := cF c3 h
    refine AWp.cdT rfl (by first | rfl | simp only [c3, Bool.not_true, Bool.not_false, cond_true, cond_false]) ?_
    refine AWp.seq ?_
    refine AWp.rg hT hA {} (by (repeat (cbv; simp only [c3])); first | done | cbv) (lb rfl) ?_
    refine nT ?_
    refine AWp.ret ?_
    refine rT ?_
    cases soI h
    exact ⟨rfl, rfl, rfl, lb rfl, _, rfl⟩

theorem R3w {A : Ar} (hA : A = Ar.std) {x1 : Int} {x2 : List D} {x3 : List D} {x4 : Int} {v35 : Bool} (h : R3 A x1 x2 x3 x4 = some v35) : ACall Try.prog 3 [(.d (.agg [(.int .i64 x1), (.list 3 x2)])), (.d (.list 1 x3)), (.d (.int .i64 x4))] [] (.d (.bool v35)) [] := by
  unfold R3 at h
  refine ACall.enter hT (fn := Try.f3) Try.func3 rfl (by decide) (by simp [Try.f3]) rfl rfl rfl rfl (lb rfl) ?_
  refine AWp.seq ?_
  refine AWp.rg hT hA {} (by cbv) (lb rfl) ?_
  refine nT ?_
  refine AWp.seq ?_
  refine AWp.seq ?_
  obtain ⟨v8, hvK9, h⟩ := bindS h
  refine AWp.cutN [1, 2, 3, 21] [] 0 (lb rfl) (fun τ => τ = { env := [(1, (.d (.list 1 x3))), (2, (.d (.int .i64 x4))), (3, (.lbox [(.d (.int .i64 x1)), (.d (.list 3 x2))])), (21, (.d (.bool v8)))], heap := [], n := 68 }) ?_ ?_
  · skip
    refine AWp.region ?_
    obtain ⟨r6, e5, hvK9⟩ := bindS hvK9
    refine AOps.cc hT hA {} (by cbv) (lb rfl) (R16w hA e5) rfl (.inl rfl) rfl rfl rfl (lb rfl) rfl rfl ?_
    rcases tf r6 with c7 | c7
    · replace hvK9 := cT c7 hvK9
      refine AOps.cd hT hA {} (by (repeat (cbv; simp only [c7])); first | done | cbv) (lb rfl) ?_
      cases soI hvK9
      exact oNi ⟨rfl, (by first | (cbv; done) | ((repeat (cbv; simp only [c7])); first | done | cbv))⟩
    · replace hvK9 := cF c7 hvK9
      refine AOps.cd hT hA {} (by (repeat (cbv; simp only [c7])); first | done | cbv) (lb rfl) ?_
      cases soI hvK9
      exact oNi ⟨rfl, (by first | (cbv; done) | ((repeat (cbv; simp only [c7])); first | done | cbv))⟩
  · rintro _ rfl
    refine nT ?_
    rcases tf v8 with c10 | c10
    · replace h := cT c10 h
      refine AWp.cdT rfl (by first | rfl | simp only [c10, Bool.not_true, Bool.not_false, cond_true, cond_false]) ?_
      refine AWp.seq ?_
      refine AWp.region ?_
      obtain ⟨r12, e11, h⟩ := bindS h
      refine AOps.cc hT hA { tk := [22] } (by (repeat (cbv; simp only [c10])); first | done | cbv) (lb rfl) (R17w hA e11) rfl (.inl rfl) rfl rfl rfl (lb rfl) rfl rfl ?_
      refine AOps.cd hT hA { tk := [22] } (by (repeat (cbv; simp only [c10])); first | done | cbv) (lb rfl) ?_
      refine nT ?_
      refine AWp.ret ?_
      refine rT ?_
      cases soI h
      exact ⟨rfl, rfl, rfl, lb rfl, _, rfl⟩
    · replace h := cF c10 h
      refine AWp.cdF rfl (by first | rfl | simp only [c10, Bool.not_true, Bool.not_false, cond_true, cond_false]) ?_
      refine AWp.skip ?_
      refine nT ?_
      refine AWp.seq ?_
      refine AWp.region ?_
      obtain ⟨⟨r14, r15⟩, e13, h⟩ := bindS h
      refine AOps.cc hT hA {} (by (repeat (cbv; simp only [c10])); first | done | cbv) (lb rfl) (R18w hA e13) rfl (.inl rfl) rfl rfl rfl (lb rfl) rfl rfl ?_
      refine AOps.cd hT hA {} (by (repeat (cbv; simp only [c10])); first | done | cbv) (lb rfl) ?_
      refine nT ?_
      refine AWp.seq ?_
      refine AWp.region ?_
      obtain ⟨⟨r17, r18⟩, e16, h⟩ := bindS h
      refine AOps.cc hT hA {} (by (repeat (cbv; simp only [c10])); first | done | cbv) (lb rfl) (R19w hA e16) rfl (.inl rfl) rfl rfl rfl (lb rfl) rfl rfl ?_
      refine AOps.cd hT hA {} (by (repeat (cbv; simp only [c10])); first | done | cbv) (lb rfl) ?_
      refine nT ?_
      refine AWp.seq ?_
      refine AWp.region ?_
      obtain ⟨⟨r20, r21⟩, e19, h⟩ := bindS h
      refine AOps.cc hT hA {} (by (repeat (cbv; simp only [c10])); first | done | cbv) (lb rfl) (R20w hA e19) rfl (.inl rfl) rfl rfl rfl (lb rfl) rfl rfl ?_
      refine AOps.cd hT hA {} (by (repeat (cbv; simp only [c10])); first | done | cbv) (lb rfl) ?_
      refine nT ?_
      refine AWp.seq ?_
      refine AWp.region ?_
      obtain ⟨⟨r23, r24⟩, e22, h⟩ := bindS h
      refine AOps.cc hT hA {} (by (repeat (cbv; simp only [c10])); first | done | cbv) (lb rfl) (R21w hA e22) rfl (.inl rfl) rfl rfl rfl (lb rfl) rfl rfl ?_
      refine AOps.cd hT hA {} (by (repeat (cbv; simp only [c10])); first | done | cbv) (lb rfl) ?_
      refine nT ?_
      refine AWp.seq ?_
      obtain ⟨v33, hvK34, h⟩ := bindS h
      refine AWp.cutN [6] [] 0 (lb rfl) (fun τ => τ = { env := [(6, (.d (.bool v33)))], heap := [], n := 68 }) ?_ ?_
      · skip
        refine AWp.region ?_
        rcases tf (A.beq r14 r17) with c25 | c25
        · replace hvK34 := cT c25 hvK34
          rcases tf (A.zeq r15 r18) with c26 | c26
          · replace hvK34 := cT c26 hvK34
            obtain ⟨r28, e27, hvK34⟩ := bindS hvK34
            refine AOps.cc hT hA { tk := [67] } (by (repeat (cbv; simp only [c10, c25, c26])); first | done | cbv) (lb rfl) (R22w hA e27) rfl (.inl rfl) rfl rfl rfl (lb rfl) rfl rfl ?_
            rcases tf r28 with c29 | c29
            · replace hvK34 := cT c29 hvK34
              rcases tf (A.zeq r21 r24) with c30 | c30
              · replace hvK34 := cT c30 hvK34
                obtain ⟨r32, e31, hvK34⟩ := bindS hvK34
                refine AOps.cc hT hA { tk := [67] } (by (repeat (cbv; simp only [c10, c25, c26, c29, c30])); first | done | cbv) (lb rfl) (R17w hA e31) rfl (.inl rfl) rfl rfl rfl (lb rfl) rfl rfl ?_
                refine AOps.cd hT hA { tk := [67] } (by (repeat (cbv; simp only [c10, c25, c26, c29, c30])); first | done | cbv) (lb rfl) ?_
                cases soI hvK34
                exact oNi ⟨rfl, (by first | (cbv; done) | ((repeat (cbv; simp only [c10, c25, c26, c29, c30])); first | done | cbv))⟩
              · replace hvK34 := cF c30 hvK34
                refine AOps.cd hT hA { tk := [67] } (by (repeat (cbv; simp only [c10, c25, c26, c29, c30])); first | done | cbv) (lb rfl) ?_
                cases soI hvK34
                exact oNi ⟨rfl, (by first | (cbv; done) | ((repeat (cbv; simp only [c10, c25, c26, c29, c30])); first | done | cbv))⟩
            · replace hvK34 := cF c29 hvK34
              refine AOps.cd hT hA { tk := [67] } (by (repeat (cbv; simp only [c10, c25, c26, c29])); first | done | cbv) (lb rfl) ?_
              cases soI hvK34
              exact oNi ⟨rfl, (by first | (cbv; done) | ((repeat (cbv; simp only [c10, c25, c26, c29])); first | done | cbv))⟩
          · replace hvK34 := cF c26 hvK34
            refine AOps.cd hT hA { tk := [67] } (by (repeat (cbv; simp only [c10, c25, c26])); first | done | cbv) (lb rfl) ?_
            cases soI hvK34
            exact oNi ⟨rfl, (by first | (cbv; done) | ((repeat (cbv; simp only [c10, c25, c26])); first | done | cbv))⟩
        · replace hvK34 := cF c25 hvK34
          refine AOps.cd hT hA { tk := [67] } (by (repeat (cbv; simp only [c10, c25])); first | done | cbv) (lb rfl) ?_
          cases soI hvK34
          exact oNi ⟨rfl, (by first | (cbv; done) | ((repeat (cbv; simp only [c10, c25])); first | done | cbv))⟩
      · rintro _ rfl
        refine nT ?_
        refine AWp.ret ?_
        cases soI h
        exact ⟨rfl, rfl, rfl, lb rfl, _, rfl⟩
end Go.Am
