/- Own text: Genw1. -/
import Derived.Test.YtlpolnmadfmphaaGenw0
set_option maxRecDepth 100000
set_option maxHeartbeats 2000000
set_option linter.unusedVariables false
set_option linter.unusedSimpArgs false
namespace Go.Am
open Go Go.Proofs
theorem H103w {A : Ar} (hA : A = Ar.std) {x1 : List D} {x2 : Int} {v5 : List D} (h : H103 A x1 x2 = some v5) : ACall Try.prog 103 [(.ptr 0 0), (.ptr 1 0)] [(.cells [(.d (.list 6 x1))]), (.cells [(.d (.int .i64 x2))])] (.own 6 v5) [(.cells [(.d (.list 6 x1))]), (.cells [(.d (.int .i64 x2))])] := by
  unfold H103 at h
  refine ACall.enter hT (fn := Try.f103) Try.func103 rfl (by decide) (by simp [Try.f103]) rfl rfl rfl rfl (lb rfl) ?_
  refine AWp.seq ?_
  refine AWp.rg hT hA {} (by cbv) (lb rfl) ?_
  refine nT ?_
  refine AWp.seq ?_
  refine AWp.region ?_
  obtain ⟨r4, e3, h⟩ := bindS h
  refine AOps.cc hT hA { tk := [5] } (by cbv) (lb rfl) (H88cw hA e3) rfl (.inl rfl) rfl rfl rfl (lb rfl) rfl rfl ?_
  refine AOps.cd hT hA { tk := [5] } (by cbv) (lb rfl) ?_
  refine nT ?_
  refine AWp.ret ?_
  cases soI h
  exact ⟨rfl, rfl, rfl, lb rfl, _, rfl⟩

theorem H85bw {A : Ar} (hA : A = Ar.std) {x1 : List D} {x2 : List D} {x3 : Int} {v12 : List D} {v13 : Int} (h : H85b A x1 x2 x3 = some (v12, v13)) : ACall Try.prog 85 [(.d (.list 6 x1)), (.func 102 [] [(.ptr 1 0)]), (.func 103 [] [(.ptr 0 0), (.ptr 1 0)])] [(.cells [(.d (.list 6 x2))]), (.cells [(.d (.int .i64 x3))])] (.tuple [(.d (.list 6 v12)), (.d (.int .i64 v13))]) [(.cells [(.d (.list 6 x2))]), (.cells [(.d (.int .i64 x3))])] := by
  unfold H85b at h
  refine ACall.enter hT (fn := Try.f85) Try.func85 rfl (by decide) (by simp [Try.f85]) rfl rfl rfl rfl (lb rfl) ?_
  refine AWp.seq ?_
  refine AWp.rg hT hA {} (by cbv) (lb rfl) ?_
  refine nT ?_
  refine AWp.seq ?_
  refine AWp.rg hT hA {} (by cbv) (lb rfl) ?_
  refine nT ?_
  refine AWp.seq ?_
  refine AWp.block ?_
  refine AWp.seq ?_
  refine AWp.region ?_
  obtain ⟨r5, e4, h⟩ := bindS h
  refine AOps.cc hT hA {} (by cbv) (lb rfl) (H24w hA e4) rfl (.inr rfl) rfl rfl rfl (lb rfl) rfl rfl ?_
  refine AOps.cd hT hA {} (by cbv) (lb rfl) ?_
  refine nT ?_
  rcases tf r5 with c6 | c6
  · replace h := cT c6 h
    refine AWp.cdF rfl (by first | rfl | simp only [c6, Bool.not_true, Bool.not_false, cond_true, cond_false]) ?_
    refine AWp.seq ?_
    refine AWp.region ?_
    obtain ⟨r8, e7, h⟩ := bindS h
    refine AOps.cc hT hA {} (by (repeat (cbv; simp only [c6])); first | done | cbv) (lb rfl) (H102w hA e7) rfl (.inl rfl) rfl rfl rfl (lb rfl) rfl rfl ?_
    refine AOps.cd hT hA {} (by (repeat (cbv; simp only [c6])); first | done | cbv) (lb rfl) ?_
    refine nT ?_
    rcases tf r8 with c9 | c9
    · replace h := cT c9 h
      refine AWp.cdF rfl (by first | rfl | simp only [c6, c9, Bool.not_true, Bool.not_false, cond_true, cond_false]) ?_
      refine AWp.skip ?_
      refine nB ?_
      refine nT ?_
      refine AWp.seq ?_
      refine AWp.region ?_
      obtain ⟨r11, e10, h⟩ := bindS h
      refine AOps.cc hT hA {} (by (repeat (cbv; simp only [c6, c9])); first | done | cbv) (lb rfl) (H103w hA e10) rfl (.inl rfl) rfl rfl rfl (lb rfl) rfl rfl ?_
      refine AOps.cd hT hA {} (by (repeat (cbv; simp only [c6, c9])); first | done | cbv) (lb rfl) ?_
      refine nT ?_
      refine AWp.ret ?_
      cases soI h
      exact ⟨rfl, rfl, rfl, lb rfl, _, rfl⟩
    · replace h := cF c9 h
      refine AWp.cdT rfl (by first | rfl | simp only [c6, c9, Bool.not_true, Bool.not_false, cond_true, cond_false]) ?_
      refine AWp.seq ?_
      refine AWp.rg hT hA {} (by (repeat (cbv; simp only [c6, c9])); first | done | cbv) (lb rfl) ?_
      refine nT ?_
      refine AWp.ret ?_
      refine rB ?_
      refine rT ?_
      cases soI h
      exact ⟨rfl, rfl, rfl, lb rfl, _, rfl⟩
  · replace h := cF c6 h
    refine AWp.cdT rfl (by first | rfl | simp only [c6, Bool.not_true, Bool.not_false, cond_true, cond_false]) ?_
    refine AWp.seq ?_
    refine AWp.rg hT hA {} (by (repeat (cbv; simp only [c6])); first | done | cbv) (lb rfl) ?_
    refine nT ?_
    refine AWp.ret ?_
    refine rB ?_
    refine rT ?_
    cases soI h
    exact ⟨rfl, rfl, rfl, lb rfl, _, rfl⟩

theorem H48w {A : Ar} (hA : A = Ar.std) {x1 : List D} {x2 : Int} {v6 : List D} {v7 : Int} (h : H48 A x1 x2 = some (v6, v7)) : ACall Try.prog 48 [(.d (.list 6 x1)), (.d (.int .i64 x2))] [] (.tuple [(.d (.list 6 v6)), (.d (.int .i64 v7))]) [] := by
  unfold H48 at h
  refine ACall.enter hT (fn := Try.f48) Try.func48 rfl (by decide) (by simp [Try.f48]) rfl rfl rfl rfl (lb rfl) ?_
  refine AWp.seq ?_
  refine AWp.rg hT hA { esc := [2, 3] } (by cbv) (lb rfl) ?_
  refine nT ?_
  refine AWp.seq ?_
  refine AWp.region ?_
  obtain ⟨⟨r4, r5⟩, e3, h⟩ := bindS h
  refine AOps.cc hT hA {} (by cbv) (lb rfl) (H85bw hA e3) rfl (.inl rfl) rfl rfl rfl (lb rfl) rfl rfl ?_
  refine AOps.cd hT hA {} (by cbv) (lb rfl) ?_
  refine nT ?_
  refine AWp.ret ?_
  cases soI h
  exact ⟨rfl, rfl, rfl, lb rfl, _, rfl⟩

theorem H49w {A : Ar} (hA : A = Ar.std) {x1 : List D} {x2 : Int} {v47 : List D} {v48 : Int} (h : H49 A x1 x2 = some (v47, v48)) : ACall Try.prog 49 [(.d (.list 6 x1)), (.d (.int .i64 x2))] [] (.tuple [(.d (.list 6 v47)), (.d (.int .i64 v48))]) [] := by
  unfold H49 at h
  refine ACall.enter hT (fn := Try.f49) Try.func49 rfl (by decide) (by simp [Try.f49]) rfl rfl rfl rfl (lb rfl) ?_
  refine AWp.seq ?_
  refine AWp.rg hT hA {} (by cbv) (lb rfl) ?_
  refine nT ?_
  refine AWp.seq ?_
  refine AWp.seq ?_
  refine AWp.region ?_
  obtain ⟨r4, e3, h⟩ := bindS h
  refine AOps.cc hT hA {} (by cbv) (lb rfl) (H25w hA e3) rfl (.inl rfl) rfl rfl rfl (lb rfl) rfl rfl ?_
  refine AOps.cd hT hA {} (by cbv) (lb rfl) ?_
  refine nT ?_
  rcases tf r4 with c5 | c5
  · replace h := cT c5 h
    refine AWp.cdF rfl (by first | rfl | simp only [c5, Bool.not_true, Bool.not_false, cond_true, cond_false]) ?_
    refine AWp.skip ?_
    refine nT ?_
    refine AWp.seq ?_
    refine AWp.seq ?_
    refine AWp.region ?_
    obtain ⟨r7, e6, h⟩ := bindS h
    refine AOps.cc hT hA {} (by (repeat (cbv; simp only [c5])); first | done | cbv) (lb rfl) (H67w hA e6) rfl (.inl rfl) rfl rfl rfl (lb rfl) rfl rfl ?_
    refine AOps.cd hT hA {} (by (repeat (cbv; simp only [c5])); first | done | cbv) (lb rfl) ?_
    refine nT ?_
    rcases tf r7 with c8 | c8
    · replace h := cT c8 h
      refine AWp.cdF rfl (by first | rfl | simp only [c5, c8, Bool.not_true, Bool.not_false, cond_true, cond_false]) ?_
      refine AWp.skip ?_
      refine nT ?_
      refine AWp.seq ?_
      refine AWp.rg hT hA {} (by (repeat (cbv; simp only [c5, c8])); first | done | cbv) (lb rfl) ?_
      refine nT ?_
      refine AWp.seq ?_
      refine AWp.seq ?_
      refine AWp.rg hT hA {} (by (repeat (cbv; simp only [c5, c8])); first | done | cbv) (lb rfl) ?_
      refine nT ?_
      refine AWp.block ?_
      obtain ⟨xK46, hxK46, K46, hK46, hkK46⟩ := bindK h
      refine AWp.cutX 0 [6] [] 0 (lb rfl) (fun τ => ∃ v45, K46 v45 = some (v47, v48) ∧ τ = { env := [(6, (.own 6 v45))], heap := [], n := 35 }) ?_ ?_
      · skip
        refine AWp.iter hxK46 [0, 1, 6, 7] [] 0 (lb rfl) (fun (v26, v27) => { env := [(0, (.d (.list 6 x1))), (1, (.d (.int .i64 x2))), (6, (.own 6 v26)), (7, (.d (.int .i64 v27)))], heap := [], n := 35 }) ⟨rfl, (by first | (cbv; done) | ((repeat (cbv; simp only [c5, c8])); first | done | cbv))⟩ ?_
        rintro ⟨v26, v27⟩ eK46 hsK46
        dsimp only [H49L0] at hsK46
        refine AWp.seq ?_
        refine AWp.seq ?_
        refine AWp.rg hT hA {} (by cbv) (lb rfl) ?_
        refine nT ?_
        rcases tf (A.zlt v27 (A.len x1)) with c28 | c28
        · replace hsK46 := cT c28 hsK46
          refine AWp.cdT rfl (by first | rfl | simp only [c28, Bool.not_true, Bool.not_false, cond_true, cond_false]) ?_
          refine AWp.skip ?_
          refine nT ?_
          refine AWp.seq ?_
          refine AWp.block ?_
          refine AWp.seq ?_
          obtain ⟨⟨a29, a30, a31, a32, a33, a34⟩, e35, hsK46⟩ := bindS hsK46
          obtain ⟨f36, f37⟩ := gtI e35
          refine AWp.rg hT hA {} (by (repeat (cbv; simp only [c28, f36, f37])); first | done | cbv) (lb rfl) ?_
          refine nT ?_
          obtain ⟨v43, hvK44, hsK46⟩ := bindS hsK46
          refine AWp.cutN [0, 1, 6, 7] [] 0 (lb rfl) (fun τ => τ = { env := [(0, (.d (.list 6 x1))), (1, (.d (.int .i64 x2))), (6, (.own 6 v43)), (7, (.d (.int .i64 v27)))], heap := [], n := 35 }) ?_ ?_
          · skip
            rcases tf (A.zeq a29 x2) with c38 | c38
            · replace hvK44 := cT c38 hvK44
              refine AWp.cdT rfl (by first | rfl | simp only [c28, c38, Bool.not_true, Bool.not_false, cond_true, cond_false]) ?_
              obtain ⟨l39, e40, hvK44⟩ := bindS hvK44
              obtain ⟨f41, f42⟩ := apI e40
              refine AWp.rg hT hA { tk := [6, 33] } (by (repeat (cbv; simp only [c28, c38, f36, f37, f41, f42])); first | done | cbv) (lb rfl) ?_
              cases soI hvK44
              exact oNi ⟨rfl, (by first | (cbv; done) | ((repeat (cbv; simp only [c28, c38])); first | done | cbv))⟩
            · replace hvK44 := cF c38 hvK44
              refine AWp.cdF rfl (by first | rfl | simp only [c28, c38, Bool.not_true, Bool.not_false, cond_true, cond_false]) ?_
              refine AWp.skip ?_
              cases soI hvK44
              exact oNi ⟨rfl, (by first | (cbv; done) | ((repeat (cbv; simp only [c28, c38])); first | done | cbv))⟩
          · rintro _ rfl
            refine nB ?_
            refine nT ?_
            refine AWp.rg hT hA {} (by cbv) (lb rfl) ?_
            exact nT ⟨_, (soI hsK46).symm, rfl, (by cbv)⟩
        · replace hsK46 := cF c28 hsK46
          refine AWp.cdF rfl (by first | rfl | simp only [c28, Bool.not_true, Bool.not_false, cond_true, cond_false]) ?_
          refine AWp.exit ?_
          refine xT ?_
          refine xT ?_
          refine exL hsK46 fun hx => ?_
          subst hx
          exact oxI ⟨rfl, _, hkK46, (by first | (cbv; done) | ((repeat (cbv; simp only [c28])); first | done | cbv))⟩
      · rintro _ ⟨v45, hkK46, rfl⟩
        have h := (hK46 _ hkK46)
        refine xB ?_
        refine nT ?_
        refine AWp.seq ?_
        refine AWp.rg hT hA {} (by cbv) (lb rfl) ?_
        refine nT ?_
        refine AWp.ret ?_
        cases soI h
        exact ⟨rfl, rfl, rfl, lb rfl, _, rfl⟩
    · replace h := cF c8 h
      refine AWp.cdT rfl (by first | rfl | simp only [c5, c8, Bool.not_true, Bool.not_false, cond_true, cond_false]) ?_
      refine AWp.seq ?_
      refine AWp.rg hT hA {} (by (repeat (cbv; simp only [c5, c8])); first | done | cbv) (lb rfl) ?_
      refine nT ?_
      refine AWp.ret ?_
      refine rT ?_
      cases soI h
      exact ⟨rfl, rfl, rfl, lb rfl, _, rfl⟩
  · replace h := cF c5 h
    refine AWp.cdT rfl (by first | rfl | simp only [c5, Bool.not_true, Bool.not_false, cond_true, cond_false]) ?_
    refine AWp.seq ?_
    refine AWp.rg hT hA {} (by (repeat (cbv; simp only [c5])); first | done | cbv) (lb rfl) ?_
    refine nT ?_
    refine AWp.ret ?_
    refine rT ?_
    cases soI h
    exact ⟨rfl, rfl, rfl, lb rfl, _, rfl⟩

theorem H50w {A : Ar} (hA : A = Ar.std) {x1 : List D} {x2 : Int} {v55 : List D} {v56 : Int} (h : H50 A x1 x2 = some (v55, v56)) : ACall Try.prog 50 [(.d (.list 6 x1)), (.d (.int .i64 x2))] [] (.tuple [(.d (.list 6 v55)), (.d (.int .i64 v56))]) [] := by
  unfold H50 at h
  refine ACall.enter hT (fn := Try.f50) Try.func50 rfl (by decide) (by simp [Try.f50]) rfl rfl rfl rfl (lb rfl) ?_
  refine AWp.seq ?_
  refine AWp.rg hT hA {} (by cbv) (lb rfl) ?_
  refine nT ?_
  refine AWp.seq ?_
  refine AWp.seq ?_
  refine AWp.region ?_
  obtain ⟨r4, e3, h⟩ := bindS h
  refine AOps.cc hT hA {} (by cbv) (lb rfl) (H25w hA e3) rfl (.inl rfl) rfl rfl rfl (lb rfl) rfl rfl ?_
  refine AOps.cd hT hA {} (by cbv) (lb rfl) ?_
  refine nT ?_
  rcases tf r4 with c5 | c5
  · replace h := cT c5 h
    refine AWp.cdF rfl (by first | rfl | simp only [c5, Bool.not_true, Bool.not_false, cond_true, cond_false]) ?_
    refine AWp.skip ?_
    refine nT ?_
    refine AWp.seq ?_
    refine AWp.seq ?_
    refine AWp.region ?_
    obtain ⟨r7, e6, h⟩ := bindS h
    refine AOps.cc hT hA {} (by (repeat (cbv; simp only [c5])); first | done | cbv) (lb rfl) (H67w hA e6) rfl (.inl rfl) rfl rfl rfl (lb rfl) rfl rfl ?_
    refine AOps.cd hT hA {} (by (repeat (cbv; simp only [c5])); first | done | cbv) (lb rfl) ?_
    refine nT ?_
    rcases tf r7 with c8 | c8
    · replace h := cT c8 h
      refine AWp.cdF rfl (by first | rfl | simp only [c5, c8, Bool.not_true, Bool.not_false, cond_true, cond_false]) ?_
      refine AWp.skip ?_
      refine nT ?_
      refine AWp.seq ?_
      refine AWp.rg hT hA {} (by (repeat (cbv; simp only [c5, c8])); first | done | cbv) (lb rfl) ?_
      refine nT ?_
      refine AWp.seq ?_
      refine AWp.seq ?_
      refine AWp.rg hT hA {} (by (repeat (cbv; simp only [c5, c8])); first | done | cbv) (lb rfl) ?_
      refine nT ?_
      refine AWp.block ?_
      obtain ⟨xK54, hxK54, K54, hK54, hkK54⟩ := bindK h
      refine AWp.cutX 0 [6] [] 0 (lb rfl) (fun τ => ∃ v53, K54 v53 = some (v55, v56) ∧ τ = { env := [(6, (.own 6 v53))], heap := [], n := 40 }) ?_ ?_
      · skip
        refine AWp.iter hxK54 [0, 1, 6, 7] [] 0 (lb rfl) (fun (v30, v31) => { env := [(0, (.d (.list 6 x1))), (1, (.d (.int .i64 x2))), (6, (.own 6 v30)), (7, (.d (.int .i64 v31)))], heap := [], n := 40 }) ⟨rfl, (by first | (cbv; done) | ((repeat (cbv; simp only [c5, c8])); first | done | cbv))⟩ ?_
        rintro ⟨v30, v31⟩ eK54 hsK54
        dsimp only [H50L0] at hsK54
        refine AWp.seq ?_
        refine AWp.seq ?_
        refine AWp.rg hT hA {} (by cbv) (lb rfl) ?_
        refine nT ?_
        rcases tf (A.zlt v31 (A.len x1)) with c32 | c32
        · replace hsK54 := cT c32 hsK54
          refine AWp.cdT rfl (by first | rfl | simp only [c32, Bool.not_true, Bool.not_false, cond_true, cond_false]) ?_
          refine AWp.skip ?_
          refine nT ?_
          refine AWp.seq ?_
          obtain ⟨v51, hvK52, hsK54⟩ := bindS hsK54
          refine AWp.cutN [0, 1, 6, 7] [] 0 (lb rfl) (fun τ => τ = { env := [(0, (.d (.list 6 x1))), (1, (.d (.int .i64 x2))), (6, (.own 6 v51)), (7, (.d (.int .i64 v31)))], heap := [], n := 40 }) ?_ ?_
          · skip
            refine AWp.block ?_
            refine AWp.seq ?_
            obtain ⟨⟨a33, a34, a35, a36, a37, a38⟩, e39, hvK52⟩ := bindS hvK52
            obtain ⟨f40, f41⟩ := gtI e39
            refine AWp.rg hT hA { tk := [24] } (by (repeat (cbv; simp only [c32, f40, f41])); first | done | cbv) (lb rfl) ?_
            refine nT ?_
            refine AWp.seq ?_
            refine AWp.seq ?_
            refine AWp.rg hT hA {} (by (repeat (cbv; simp only [c32])); first | done | cbv) (lb rfl) ?_
            refine nT ?_
            rcases tf (A.zlt x2 a37) with c42 | c42
            · replace hvK52 := cT c42 hvK52
              refine AWp.cdT rfl (by first | rfl | simp only [c32, c42, Bool.not_true, Bool.not_false, cond_true, cond_false]) ?_
              refine AWp.exit ?_
              refine xT ?_
              refine xB ?_
              cases soI hvK52
              exact oNi ⟨rfl, (by first | (cbv; done) | ((repeat (cbv; simp only [c32, c42])); first | done | cbv))⟩
            · replace hvK52 := cF c42 hvK52
              refine AWp.cdF rfl (by first | rfl | simp only [c32, c42, Bool.not_true, Bool.not_false, cond_true, cond_false]) ?_
              refine AWp.skip ?_
              refine nT ?_
              refine AWp.seq ?_
              refine AWp.seq ?_
              refine AWp.rg hT hA {} (by (repeat (cbv; simp only [c32, c42])); first | done | cbv) (lb rfl) ?_
              refine nT ?_
              obtain ⟨⟨v44, v45⟩, hvK46, hvK52⟩ := bindS hvK52
              refine AWp.cutN [0, 1, 6, 7, 8] [] 0 (lb rfl) (fun τ => τ = { env := [(0, (.d (.list 6 x1))), (1, (.d (.int .i64 x2))), (6, (.own 6 v30)), (7, (.d (.int .i64 v31))), (8, (.lbox [(.d (.int .i64 a33)), (.d (.int .i64 a34)), (.d (.int .i64 a35)), (.d (.int .i64 v44)), (.d (.int .i64 a37)), (.d (.int .i64 v45))]))], heap := [], n := 40 }) ?_ ?_
              · skip
                rcases tf (A.zlt x2 a38) with c43 | c43
                · replace hvK46 := cT c43 hvK46
                  refine AWp.cdT rfl (by first | rfl | simp only [c32, c42, c43, Bool.not_true, Bool.not_false, cond_true, cond_false]) ?_
                  refine AWp.rg hT hA {} (by (repeat (cbv; simp only [c32, c42, c43])); first | done | cbv) (lb rfl) ?_
                  cases soI hvK46
                  exact oNi ⟨rfl, (by first | (cbv; done) | ((repeat (cbv; simp only [c32, c42, c43])); first | done | cbv))⟩
                · replace hvK46 := cF c43 hvK46
                  refine AWp.cdF rfl (by first | rfl | simp only [c32, c42, c43, Bool.not_true, Bool.not_false, cond_true, cond_false]) ?_
                  refine AWp.skip ?_
                  cases soI hvK46
                  exact oNi ⟨rfl, (by first | (cbv; done) | ((repeat (cbv; simp only [c32, c42, c43])); first | done | cbv))⟩
              · rintro _ rfl
                refine nT ?_
                obtain ⟨l47, e48, hvK52⟩ := bindS hvK52
                obtain ⟨f49, f50⟩ := apI e48
                refine AWp.rg hT hA { tk := [6, 38] } (by (repeat (cbv; simp only [f49, f50])); first | done | cbv) (lb rfl) ?_
                refine nB ?_
                cases soI hvK52
                exact oNi ⟨rfl, (by cbv)⟩
          · rintro _ rfl
            refine nT ?_
            refine AWp.rg hT hA {} (by cbv) (lb rfl) ?_
            exact nT ⟨_, (soI hsK54).symm, rfl, (by cbv)⟩
        · replace hsK54 := cF c32 hsK54
          refine AWp.cdF rfl (by first | rfl | simp only [c32, Bool.not_true, Bool.not_false, cond_true, cond_false]) ?_
          refine AWp.exit ?_
          refine xT ?_
          refine xT ?_
          refine exL hsK54 fun hx => ?_
          subst hx
          exact oxI ⟨rfl, _, hkK54, (by first | (cbv; done) | ((repeat (cbv; simp only [c32])); first | done | cbv))⟩
      · rintro _ ⟨v53, hkK54, rfl⟩
        have h := (hK54 _ hkK54)
        refine xB ?_
        refine nT ?_
        refine AWp.seq ?_
        refine AWp.rg hT hA {} (by cbv) (lb rfl) ?_
        refine nT ?_
        refine AWp.ret ?_
        cases soI h
        exact ⟨rfl, rfl, rfl, lb rfl, _, rfl⟩
    · replace h := cF c8 h
      refine AWp.cdT rfl (by first | rfl | simp only [c5, c8, Bool.not_true, Bool.not_false, cond_true, cond_false]) ?_
      refine AWp.seq ?_
      refine AWp.rg hT hA {} (by (repeat (cbv; simp only [c5, c8])); first | done | cbv) (lb rfl) ?_
      refine nT ?_
      refine AWp.ret ?_
      refine rT ?_
      cases soI h
      exact ⟨rfl, rfl, rfl, lb rfl, _, rfl⟩
  · replace h := cF c5 h
    refine AWp.cdT rfl (by first | rfl | simp only [c5, Bool.not_true, Bool.not_false, cond_true, cond_false]) ?_
    refine AWp.seq ?_
    refine AWp.rg hT hA {} (by (repeat (cbv; simp only [c5])); first | done | cbv) (lb rfl) ?_
    refine nT ?_
    refine AWp.ret ?_
    refine rT ?_
    cases soI h
    exact ⟨rfl, rfl, rfl, lb rfl, _, rfl⟩

theorem H10w {A : Ar} (hA : A = Ar.std) {x1 : List D} {x2 : Int} {x3 : Int} {v45 : Bool} (h : H10 A x1 x2 x3 = some v45) : ACall Try.prog 10 [(.d (.list 6 x1)), (.d (.int .i64 x2)), (.d (.int .i64 x3))] [] (.d (.bool v45)) [] := by
  unfold H10 at h
  refine ACall.enter hT (fn := Try.f10) Try.func10 rfl (by decide) (by simp [Try.f10]) rfl rfl rfl rfl (lb rfl) ?_
  refine AWp.seq ?_
  refine AWp.rg hT hA {} (by cbv) (lb rfl) ?_
  refine nT ?_
  refine AWp.seq ?_
  refine AWp.seq ?_
  refine AWp.region ?_
  obtain ⟨r5, e4, h⟩ := bindS h
  refine AOps.cc hT hA {} (by cbv) (lb rfl) (H18w hA e4) rfl (.inl rfl) rfl rfl rfl (lb rfl) rfl rfl ?_
  refine AOps.cd hT hA {} (by cbv) (lb rfl) ?_
  refine nT ?_
  rcases tf r5 with c6 | c6
  · replace h := cT c6 h
    refine AWp.cdT rfl (by first | rfl | simp only [c6, Bool.not_true, Bool.not_false, cond_true, cond_false]) ?_
    refine AWp.seq ?_
    refine AWp.region ?_
    obtain ⟨r8, e7, h⟩ := bindS h
    refine AOps.cc hT hA { tk := [17] } (by (repeat (cbv; simp only [c6])); first | done | cbv) (lb rfl) (H19w hA e7) rfl (.inl rfl) rfl rfl rfl (lb rfl) rfl rfl ?_
    refine AOps.cd hT hA { tk := [17] } (by (repeat (cbv; simp only [c6])); first | done | cbv) (lb rfl) ?_
    refine nT ?_
    refine AWp.ret ?_
    refine rT ?_
    cases soI h
    exact ⟨rfl, rfl, rfl, lb rfl, _, rfl⟩
  · replace h := cF c6 h
    refine AWp.cdF rfl (by first | rfl | simp only [c6, Bool.not_true, Bool.not_false, cond_true, cond_false]) ?_
    refine AWp.skip ?_
    refine nT ?_
    refine AWp.seq ?_
    refine AWp.region ?_
    obtain ⟨⟨r10, r11⟩, e9, h⟩ := bindS h
    refine AOps.cc hT hA {} (by (repeat (cbv; simp only [c6])); first | done | cbv) (lb rfl) (H40w hA e9) rfl (.inl rfl) rfl rfl rfl (lb rfl) rfl rfl ?_
    refine AOps.cd hT hA {} (by (repeat (cbv; simp only [c6])); first | done | cbv) (lb rfl) ?_
    refine nT ?_
    refine AWp.seq ?_
    refine AWp.region ?_
    obtain ⟨⟨r13, r14⟩, e12, h⟩ := bindS h
    refine AOps.cc hT hA {} (by (repeat (cbv; simp only [c6])); first | done | cbv) (lb rfl) (H47w hA e12) rfl (.inl rfl) rfl rfl rfl (lb rfl) rfl rfl ?_
    refine AOps.cd hT hA {} (by (repeat (cbv; simp only [c6])); first | done | cbv) (lb rfl) ?_
    refine nT ?_
    refine AWp.seq ?_
    refine AWp.seq ?_
    obtain ⟨v18, hvK19, h⟩ := bindS h
    refine AWp.cutN [0, 1, 2, 38] [] 0 (lb rfl) (fun τ => τ = { env := [(0, (.d (.list 6 x1))), (1, (.d (.int .i64 x2))), (2, (.d (.int .i64 x3))), (38, (.d (.bool v18)))], heap := [], n := 84 }) ?_ ?_
    · skip
      refine AWp.region ?_
      obtain ⟨r16, e15, hvK19⟩ := bindS hvK19
      refine AOps.cc hT hA {} (by (repeat (cbv; simp only [c6])); first | done | cbv) (lb rfl) (H34w hA e15) rfl (.inl rfl) rfl rfl rfl (lb rfl) rfl rfl ?_
      rcases tf r16 with c17 | c17
      · replace hvK19 := cT c17 hvK19
        refine AOps.cd hT hA {} (by (repeat (cbv; simp only [c6, c17])); first | done | cbv) (lb rfl) ?_
        cases soI hvK19
        exact oNi ⟨rfl, (by first | (cbv; done) | ((repeat (cbv; simp only [c6, c17])); first | done | cbv))⟩
      · replace hvK19 := cF c17 hvK19
        refine AOps.cd hT hA {} (by (repeat (cbv; simp only [c6, c17])); first | done | cbv) (lb rfl) ?_
        cases soI hvK19
        exact oNi ⟨rfl, (by first | (cbv; done) | ((repeat (cbv; simp only [c6, c17])); first | done | cbv))⟩
    · rintro _ rfl
      refine nT ?_
      rcases tf v18 with c20 | c20
      · replace h := cT c20 h
        refine AWp.cdT rfl (by first | rfl | simp only [c20, Bool.not_true, Bool.not_false, cond_true, cond_false]) ?_
        refine AWp.seq ?_
        refine AWp.rg hT hA {} (by (repeat (cbv; simp only [c20])); first | done | cbv) (lb rfl) ?_
        refine nT ?_
        refine AWp.ret ?_
        refine rT ?_
        cases soI h
        exact ⟨rfl, rfl, rfl, lb rfl, _, rfl⟩
      · replace h := cF c20 h
        refine AWp.cdF rfl (by first | rfl | simp only [c20, Bool.not_true, Bool.not_false, cond_true, cond_false]) ?_
        refine AWp.skip ?_
        refine nT ?_
        refine AWp.seq ?_
        refine AWp.region ?_
        obtain ⟨⟨r22, r23⟩, e21, h⟩ := bindS h
        refine AOps.cc hT hA {} (by (repeat (cbv; simp only [c20])); first | done | cbv) (lb rfl) (H48w hA e21) rfl (.inl rfl) rfl rfl rfl (lb rfl) rfl rfl ?_
        refine AOps.cd hT hA {} (by (repeat (cbv; simp only [c20])); first | done | cbv) (lb rfl) ?_
        refine nT ?_
        refine AWp.seq ?_
        refine AWp.region ?_
        obtain ⟨⟨r25, r26⟩, e24, h⟩ := bindS h
        refine AOps.cc hT hA {} (by (repeat (cbv; simp only [c20])); first | done | cbv) (lb rfl) (H49w hA e24) rfl (.inl rfl) rfl rfl rfl (lb rfl) rfl rfl ?_
        refine AOps.cd hT hA {} (by (repeat (cbv; simp only [c20])); first | done | cbv) (lb rfl) ?_
        refine nT ?_
        refine AWp.seq ?_
        refine AWp.region ?_
        obtain ⟨⟨r28, r29⟩, e27, h⟩ := bindS h
        refine AOps.cc hT hA {} (by (repeat (cbv; simp only [c20])); first | done | cbv) (lb rfl) (H45w hA e27) rfl (.inl rfl) rfl rfl rfl (lb rfl) rfl rfl ?_
        refine AOps.cd hT hA {} (by (repeat (cbv; simp only [c20])); first | done | cbv) (lb rfl) ?_
        refine nT ?_
        refine AWp.seq ?_
        refine AWp.region ?_
        obtain ⟨⟨r31, r32⟩, e30, h⟩ := bindS h
        refine AOps.cc hT hA {} (by (repeat (cbv; simp only [c20])); first | done | cbv) (lb rfl) (H50w hA e30) rfl (.inl rfl) rfl rfl rfl (lb rfl) rfl rfl ?_
        refine AOps.cd hT hA {} (by (repeat (cbv; simp only [c20])); first | done | cbv) (lb rfl) ?_
        refine nT ?_
        refine AWp.seq ?_
        obtain ⟨v43, hvK44, h⟩ := bindS h
        refine AWp.cutN [6] [] 0 (lb rfl) (fun τ => τ = { env := [(6, (.d (.bool v43)))], heap := [], n := 84 }) ?_ ?_
        · skip
          refine AWp.region ?_
          obtain ⟨r34, e33, hvK44⟩ := bindS hvK44
          refine AOps.cc hT hA { tk := [83] } (by (repeat (cbv; simp only [c20])); first | done | cbv) (lb rfl) (H34w hA e33) rfl (.inl rfl) rfl rfl rfl (lb rfl) rfl rfl ?_
          rcases tf r34 with c35 | c35
          · replace hvK44 := cT c35 hvK44
            rcases tf (A.zeq r23 r26) with c36 | c36
            · replace hvK44 := cT c36 hvK44
              obtain ⟨r38, e37, hvK44⟩ := bindS hvK44
              refine AOps.cc hT hA { tk := [83] } (by (repeat (cbv; simp only [c20, c35, c36])); first | done | cbv) (lb rfl) (H34w hA e37) rfl (.inl rfl) rfl rfl rfl (lb rfl) rfl rfl ?_
              rcases tf r38 with c39 | c39
              · replace hvK44 := cT c39 hvK44
                rcases tf (A.zeq r29 r32) with c40 | c40
                · replace hvK44 := cT c40 hvK44
                  obtain ⟨r42, e41, hvK44⟩ := bindS hvK44
                  refine AOps.cc hT hA { tk := [83] } (by (repeat (cbv; simp only [c20, c35, c36, c39, c40])); first | done | cbv) (lb rfl) (H19w hA e41) rfl (.inl rfl) rfl rfl rfl (lb rfl) rfl rfl ?_
                  refine AOps.cd hT hA { tk := [83] } (by (repeat (cbv; simp only [c20, c35, c36, c39, c40])); first | done | cbv) (lb rfl) ?_
                  cases soI hvK44
                  exact oNi ⟨rfl, (by first | (cbv; done) | ((repeat (cbv; simp only [c20, c35, c36, c39, c40])); first | done | cbv))⟩
                · replace hvK44 := cF c40 hvK44
                  refine AOps.cd hT hA { tk := [83] } (by (repeat (cbv; simp only [c20, c35, c36, c39, c40])); first | done | cbv) (lb rfl) ?_
                  cases soI hvK44
                  exact oNi ⟨rfl, (by first | (cbv; done) | ((repeat (cbv; simp only [c20, c35, c36, c39, c40])); first | done | cbv))⟩
              · replace hvK44 := cF c39 hvK44
                refine AOps.cd hT hA { tk := [83] } (by (repeat (cbv; simp only [c20, c35, c36, c39])); first | done | cbv) (lb rfl) ?_
                cases soI hvK44
                exact oNi ⟨rfl, (by first | (cbv; done) | ((repeat (cbv; simp only [c20, c35, c36, c39])); first | done | cbv))⟩
            · replace hvK44 := cF c36 hvK44
              refine AOps.cd hT hA { tk := [83] } (by (repeat (cbv; simp only [c20, c35, c36])); first | done | cbv) (lb rfl) ?_
              cases soI hvK44
              exact oNi ⟨rfl, (by first | (cbv; done) | ((repeat (cbv; simp only [c20, c35, c36])); first | done | cbv))⟩
          · replace hvK44 := cF c35 hvK44
            refine AOps.cd hT hA { tk := [83] } (by (repeat (cbv; simp only [c20, c35])); first | done | cbv) (lb rfl) ?_
            cases soI hvK44
            exact oNi ⟨rfl, (by first | (cbv; done) | ((repeat (cbv; simp only [c20, c35])); first | done | cbv))⟩
        · rintro _ rfl
          refine nT ?_
          refine AWp.ret ?_
          cases soI h
          exact ⟨rfl, rfl, rfl, lb rfl, _, rfl⟩
end Go.Am
