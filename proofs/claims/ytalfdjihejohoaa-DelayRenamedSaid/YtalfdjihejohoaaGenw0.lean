/- Own text: Genw0. -/
import Derived.Test.YtalfdjihejohoaaGenp0
import Derived.Test.YtalfdjihejohoaaAmPur
import Derived.Test.YtalfdjihejohoaaAmPur
set_option maxRecDepth 100000
set_option maxHeartbeats 2000000
set_option linter.unusedVariables false
set_option linter.unusedSimpArgs false
namespace Go.Am
open Go Go.Proofs
theorem E134w {A : Ar} (hA : A = Ar.std) {x1 : Int} {v2 : Bool} (h : E134 A x1 = some v2) : ACall Try.prog 134 [(.d (.int .i64 x1))] [] (.d (.bool v2)) [] := by
  unfold E134 at h
  refine ACall.enter hT (fn := Try.f134) Try.func134 rfl (by decide) (by simp [Try.f134]) rfl rfl rfl rfl (lb rfl) ?_
  refine AWp.seq ?_
  refine AWp.rg hT hA {} (by cbv) (lb rfl) ?_
  refine nT ?_
  refine AWp.seq ?_
  refine AWp.rg hT hA { tk := [5] } (by cbv) (lb rfl) ?_
  refine nT ?_
  refine AWp.ret ?_
  cases soI h
  exact ⟨rfl, rfl, rfl, lb rfl, _, rfl⟩

theorem E109w {A : Ar} (hA : A = Ar.std) {x1 : Int} {x2 : Int} {v12 : Int} (h : E109 A x1 x2 = some v12) : ACall Try.prog 109 [(.d (.int .i64 x1)), (.d (.int .i64 x2))] [] (.d (.int .i64 v12)) [] := by
  unfold E109 at h
  refine ACall.enter hT (fn := Try.f109) Try.func109 rfl (by decide) (by simp [Try.f109]) rfl rfl rfl rfl (lb rfl) ?_
  refine AWp.seq ?_
  refine AWp.rg hT hA {} (by cbv) (lb rfl) ?_
  refine nT ?_
  refine AWp.seq ?_
  refine AWp.region ?_
  obtain ⟨r4, e3, h⟩ := bindS h
  refine AOps.cc hT hA {} (by cbv) (lb rfl) (E134w hA e3) rfl (.inl rfl) rfl rfl rfl (lb rfl) rfl rfl ?_
  refine AOps.cd hT hA {} (by cbv) (lb rfl) ?_
  refine nT ?_
  refine AWp.seq ?_
  refine AWp.region ?_
  obtain ⟨r6, e5, h⟩ := bindS h
  refine AOps.cc hT hA {} (by cbv) (lb rfl) (E134w hA e5) rfl (.inl rfl) rfl rfl rfl (lb rfl) rfl rfl ?_
  refine AOps.cd hT hA {} (by cbv) (lb rfl) ?_
  refine nT ?_
  refine AWp.seq ?_
  refine AWp.seq ?_
  refine AWp.rg hT hA {} (by cbv) (lb rfl) ?_
  refine nT ?_
  rcases tf r4 with c7 | c7
  · replace h := cT c7 h
    refine AWp.cdT rfl (by first | rfl | simp only [c7, Bool.not_true, Bool.not_false, cond_true, cond_false]) ?_
    refine AWp.seq ?_
    refine AWp.seq ?_
    refine AWp.rg hT hA {} (by (repeat (cbv; simp only [c7])); first | done | cbv) (lb rfl) ?_
    refine nT ?_
    rcases tf r6 with c8 | c8
    · replace h := cT c8 h
      refine AWp.cdT rfl (by first | rfl | simp only [c7, c8, Bool.not_true, Bool.not_false, cond_true, cond_false]) ?_
      refine AWp.seq ?_
      refine AWp.rg hT hA {} (by (repeat (cbv; simp only [c7, c8])); first | done | cbv) (lb rfl) ?_
      refine nT ?_
      refine AWp.ret ?_
      refine rT ?_
      refine rT ?_
      cases soI h
      exact ⟨rfl, rfl, rfl, lb rfl, _, rfl⟩
    · replace h := cF c8 h
      refine AWp.cdF rfl (by first | rfl | simp only [c7, c8, Bool.not_true, Bool.not_false, cond_true, cond_false]) ?_
      refine AWp.skip ?_
      refine nT ?_
      refine AWp.seq ?_
      refine AWp.rg hT hA {} (by (repeat (cbv; simp only [c7, c8])); first | done | cbv) (lb rfl) ?_
      refine nT ?_
      refine AWp.ret ?_
      refine rT ?_
      cases soI h
      exact ⟨rfl, rfl, rfl, lb rfl, _, rfl⟩
  · replace h := cF c7 h
    refine AWp.cdF rfl (by first | rfl | simp only [c7, Bool.not_true, Bool.not_false, cond_true, cond_false]) ?_
    refine AWp.skip ?_
    refine nT ?_
    refine AWp.seq ?_
    refine AWp.seq ?_
    refine AWp.rg hT hA {} (by (repeat (cbv; simp only [c7])); first | done | cbv) (lb rfl) ?_
    refine nT ?_
    rcases tf r6 with c9 | c9
    · replace h := cT c9 h
      refine AWp.cdT rfl (by first | rfl | simp only [c7, c9, Bool.not_true, Bool.not_false, cond_true, cond_false]) ?_
      refine AWp.seq ?_
      refine AWp.rg hT hA {} (by (repeat (cbv; simp only [c7, c9])); first | done | cbv) (lb rfl) ?_
      refine nT ?_
      refine AWp.ret ?_
      refine rT ?_
      cases soI h
      exact ⟨rfl, rfl, rfl, lb rfl, _, rfl⟩
    · replace h := cF c9 h
      refine AWp.cdF rfl (by first | rfl | simp only [c7, c9, Bool.not_true, Bool.not_false, cond_true, cond_false]) ?_
      refine AWp.skip ?_
      refine nT ?_
      refine AWp.seq ?_
      refine AWp.seq ?_
      refine AWp.rg hT hA {} (by (repeat (cbv; simp only [c7, c9])); first | done | cbv) (lb rfl) ?_
      refine nT ?_
      rcases tf (A.zlt x1 x2) with c10 | c10
      · replace h := cT c10 h
        refine AWp.cdT rfl (by first | rfl | simp only [c7, c9, c10, Bool.not_true, Bool.not_false, cond_true, cond_false]) ?_
        refine AWp.seq ?_
        refine AWp.rg hT hA {} (by (repeat (cbv; simp only [c7, c9, c10])); first | done | cbv) (lb rfl) ?_
        refine nT ?_
        refine AWp.ret ?_
        refine rT ?_
        cases soI h
        exact ⟨rfl, rfl, rfl, lb rfl, _, rfl⟩
      · replace h := cF c10 h
        refine AWp.cdF rfl (by first | rfl | simp only [c7, c9, c10, Bool.not_true, Bool.not_false, cond_true, cond_false]) ?_
        refine AWp.skip ?_
        refine nT ?_
        refine AWp.seq ?_
        refine AWp.seq ?_
        refine AWp.rg hT hA {} (by (repeat (cbv; simp only [c7, c9, c10])); first | done | cbv) (lb rfl) ?_
        refine nT ?_
        rcases tf (A.zlt x2 x1) with c11 | c11
        · replace h := cT c11 h
          refine AWp.cdT rfl (by first | rfl | simp only [c7, c9, c10, c11, Bool.not_true, Bool.not_false, cond_true, cond_false]) ?_
          refine AWp.seq ?_
          refine AWp.rg hT hA {} (by (repeat (cbv; simp only [c7, c9, c10, c11])); first | done | cbv) (lb rfl) ?_
          refine nT ?_
          refine AWp.ret ?_
          refine rT ?_
          cases soI h
          exact ⟨rfl, rfl, rfl, lb rfl, _, rfl⟩
        · replace h := cF c11 h
          refine AWp.cdF rfl (by first | rfl | simp only [c7, c9, c10, c11, Bool.not_true, Bool.not_false, cond_true, cond_false]) ?_
          refine AWp.skip ?_
          refine nT ?_
          refine AWp.seq ?_
          refine AWp.rg hT hA {} (by (repeat (cbv; simp only [c7, c9, c10, c11])); first | done | cbv) (lb rfl) ?_
          refine nT ?_
          refine AWp.ret ?_
          cases soI h
          exact ⟨rfl, rfl, rfl, lb rfl, _, rfl⟩

theorem E50w {A : Ar} (hA : A = Ar.std) {x1 : List D} {x2 : List D} {v66 : Bool} (h : E50 A x1 x2 = some v66) : ACall Try.prog 50 [(.d (.list 1 x1)), (.d (.list 1 x2))] [] (.d (.bool v66)) [] := by
  unfold E50 at h
  refine ACall.enter hT (fn := Try.f50) Try.func50 rfl (by decide) (by simp [Try.f50]) rfl rfl rfl rfl (lb rfl) ?_
  refine AWp.seq ?_
  refine AWp.rg hT hA {} (by cbv) (lb rfl) ?_
  refine nT ?_
  refine AWp.seq ?_
  refine AWp.seq ?_
  refine AWp.rg hT hA {} (by cbv) (lb rfl) ?_
  refine nT ?_
  rcases tf (A.zeq (A.len x2) (A.len x1)) with c3 | c3
  · replace h := cT c3 h
    refine AWp.cdF rfl (by first | rfl | simp only [c3, Bool.not_true, Bool.not_false, cond_true, cond_false]) ?_
    refine AWp.skip ?_
    refine nT ?_
    refine AWp.seq ?_
    refine AWp.seq ?_
    refine AWp.rg hT hA {} (by (repeat (cbv; simp only [c3])); first | done | cbv) (lb rfl) ?_
    refine nT ?_
    refine AWp.block ?_
    obtain ⟨xK65, hxK65, K65, hK65, hkK65⟩ := bindK h
    refine AWp.cutX 0 [] [] 0 (lb rfl) (fun τ => K65 (.inl ()) = some v66 ∧ τ = { env := [], heap := [], n := 45 }) ?_ ?_
    · skip
      refine AWp.iter hxK65 [0, 14, 15, 16] [] 0 (lb rfl) (fun v34 => { env := [(0, (.d (.list 1 x1))), (14, (.d (.list 1 x2))), (15, (.d (.int .i64 (A.len x2)))), (16, (.d (.int .i64 v34)))], heap := [], n := 45 }) ⟨rfl, (by first | (cbv; done) | ((repeat (cbv; simp only [c3])); first | done | cbv))⟩ ?_
      rintro v34 eK65 hsK65
      dsimp only [E50L1] at hsK65
      refine AWp.seq ?_
      refine AWp.rg hT hA {} (by cbv) (lb rfl) ?_
      refine nT ?_
      refine AWp.seq ?_
      rcases tf (A.zlt v34 (A.len x2)) with c35 | c35
      · replace hsK65 := cT c35 hsK65
        refine AWp.cdT rfl (by first | rfl | simp only [c35, Bool.not_true, Bool.not_false, cond_true, cond_false]) ?_
        refine AWp.skip ?_
        refine nT ?_
        refine AWp.seq ?_
        refine AWp.block ?_
        refine AWp.seq ?_
        obtain ⟨a36, e37, hsK65⟩ := bindS hsK65
        obtain ⟨f38, f39⟩ := gtI e37
        refine AWp.rg hT hA {} (by (repeat (cbv; simp only [c35, f38, f39])); first | done | cbv) (lb rfl) ?_
        refine nT ?_
        refine AWp.seq ?_
        refine AWp.seq ?_
        obtain ⟨a40, e41, hsK65⟩ := bindS hsK65
        obtain ⟨f42, f43⟩ := gtI e41
        refine AWp.rg hT hA {} (by (repeat (cbv; simp only [c35, f42, f43])); first | done | cbv) (lb rfl) ?_
        refine nT ?_
        rcases tf (A.zeq (A.len a36) (A.zmax (A.wrp .i64 (A.zsub (A.len a40) 1)) 0)) with c44 | c44
        · replace hsK65 := cT c44 hsK65
          refine AWp.cdF rfl (by first | rfl | simp only [c35, c44, Bool.not_true, Bool.not_false, cond_true, cond_false]) ?_
          refine AWp.skip ?_
          refine nT ?_
          refine AWp.seq ?_
          refine AWp.rg hT hA {} (by (repeat (cbv; simp only [c35, c44])); first | done | cbv) (lb rfl) ?_
          refine nT ?_
          refine AWp.block ?_
          obtain ⟨xK64, hxK64, K64, hK64, hkK64⟩ := bindK hsK65
          refine AWp.cutX 2 [0, 14, 15, 16] [] 0 (lb rfl) (fun τ => K64 (.inl ()) = some eK65 ∧ τ = { env := [(0, (.d (.list 1 x1))), (14, (.d (.list 1 x2))), (15, (.d (.int .i64 (A.len x2)))), (16, (.d (.int .i64 v34)))], heap := [], n := 45 }) ?_ ?_
          · skip
            refine AWp.iter hxK64 [0, 14, 15, 16, 31, 32, 33] [] 0 (lb rfl) (fun v54 => { env := [(0, (.d (.list 1 x1))), (14, (.d (.list 1 x2))), (15, (.d (.int .i64 (A.len x2)))), (16, (.d (.int .i64 v34))), (31, (.d (.list 1 a36))), (32, (.d (.int .i64 (A.len a36)))), (33, (.d (.int .i64 v54)))], heap := [], n := 45 }) ⟨rfl, (by first | (cbv; done) | ((repeat (cbv; simp only [c35, c44])); first | done | cbv))⟩ ?_
            rintro v54 eK64 hsK64
            dsimp only [E50L0] at hsK64
            refine AWp.seq ?_
            refine AWp.rg hT hA {} (by cbv) (lb rfl) ?_
            refine nT ?_
            refine AWp.seq ?_
            rcases tf (A.zlt v54 (A.len a36)) with c55 | c55
            · replace hsK64 := cT c55 hsK64
              refine AWp.cdT rfl (by first | rfl | simp only [c55, Bool.not_true, Bool.not_false, cond_true, cond_false]) ?_
              refine AWp.skip ?_
              refine nT ?_
              refine AWp.seq ?_
              refine AWp.block ?_
              refine AWp.seq ?_
              obtain ⟨a56, e57, hsK64⟩ := bindS hsK64
              obtain ⟨f58, f59⟩ := gtI e57
              refine AWp.rg hT hA {} (by (repeat (cbv; simp only [c55, f58, f59])); first | done | cbv) (lb rfl) ?_
              refine nT ?_
              refine AWp.seq ?_
              obtain ⟨v61, hvK62, hsK64⟩ := bindS hsK64
              refine AWp.cutN [0, 14, 15, 16, 31, 32, 33, 42] [] 0 (lb rfl) (fun τ => τ = { env := [(0, (.d (.list 1 x1))), (14, (.d (.list 1 x2))), (15, (.d (.int .i64 (A.len x2)))), (16, (.d (.int .i64 v34))), (31, (.d (.list 1 a36))), (32, (.d (.int .i64 (A.len a36)))), (33, (.d (.int .i64 v54))), (42, (.d (.bool v61)))], heap := [], n := 45 }) ?_ ?_
              · skip
                rcases tf (A.zlt a56 1) with c60 | c60
                · replace hvK62 := cT c60 hvK62
                  refine AWp.rg hT hA {} (by (repeat (cbv; simp only [c55, c60])); first | done | cbv) (lb rfl) ?_
                  cases soI hvK62
                  exact oNi ⟨rfl, (by first | (cbv; done) | ((repeat (cbv; simp only [c55, c60])); first | done | cbv))⟩
                · replace hvK62 := cF c60 hvK62
                  refine AWp.rg hT hA {} (by (repeat (cbv; simp only [c55, c60])); first | done | cbv) (lb rfl) ?_
                  cases soI hvK62
                  exact oNi ⟨rfl, (by first | (cbv; done) | ((repeat (cbv; simp only [c55, c60])); first | done | cbv))⟩
              · rintro _ rfl
                refine nT ?_
                rcases tf v61 with c63 | c63
                · replace hsK64 := cT c63 hsK64
                  refine AWp.cdT rfl (by first | rfl | simp only [c63, Bool.not_true, Bool.not_false, cond_true, cond_false]) ?_
                  refine AWp.seq ?_
                  refine AWp.rg hT hA {} (by (repeat (cbv; simp only [c63])); first | done | cbv) (lb rfl) ?_
                  refine nT ?_
                  refine AWp.ret ?_
                  refine rB ?_
                  refine rT ?_
                  refine rT ?_
                  refine exL hsK64 fun hx => ?_
                  subst hx
                  refine oxR ?_
                  replace hkK64 := (eR (hK64 _ hkK64))
                  refine rB ?_
                  refine rB ?_
                  refine rT ?_
                  refine rT ?_
                  refine exL hkK64 fun hx => ?_
                  subst hx
                  refine oxR ?_
                  replace hkK65 := (eR (hK65 _ hkK65))
                  refine rB ?_
                  refine rT ?_
                  cases soI hkK65
                  exact ⟨rfl, rfl, rfl, lb rfl, _, rfl⟩
                · replace hsK64 := cF c63 hsK64
                  refine AWp.cdF rfl (by first | rfl | simp only [c63, Bool.not_true, Bool.not_false, cond_true, cond_false]) ?_
                  refine AWp.skip ?_
                  refine nB ?_
                  refine nT ?_
                  refine AWp.rg hT hA {} (by (repeat (cbv; simp only [c63])); first | done | cbv) (lb rfl) ?_
                  exact nT ⟨_, (soI hsK64).symm, rfl, (by first | (cbv; done) | ((repeat (cbv; simp only [c63])); first | done | cbv))⟩
            · replace hsK64 := cF c55 hsK64
              refine AWp.cdF rfl (by first | rfl | simp only [c55, Bool.not_true, Bool.not_false, cond_true, cond_false]) ?_
              refine AWp.exit ?_
              refine xT ?_
              refine xT ?_
              refine exL hsK64 fun hx => ?_
              subst hx
              exact oxI ⟨rfl, hkK64, (by first | (cbv; done) | ((repeat (cbv; simp only [c55])); first | done | cbv))⟩
          · rintro _ ⟨hkK64, rfl⟩
            have hsK65 := (eL (hK64 _ hkK64))
            refine xB ?_
            refine nB ?_
            refine nT ?_
            refine AWp.rg hT hA {} (by cbv) (lb rfl) ?_
            exact nT ⟨_, (soI hsK65).symm, rfl, (by cbv)⟩
        · replace hsK65 := cF c44 hsK65
          refine AWp.cdT rfl (by first | rfl | simp only [c35, c44, Bool.not_true, Bool.not_false, cond_true, cond_false]) ?_
          refine AWp.seq ?_
          refine AWp.rg hT hA {} (by (repeat (cbv; simp only [c35, c44])); first | done | cbv) (lb rfl) ?_
          refine nT ?_
          refine AWp.ret ?_
          refine rT ?_
          refine rB ?_
          refine rT ?_
          refine rT ?_
          refine exL hsK65 fun hx => ?_
          subst hx
          refine oxR ?_
          replace hkK65 := (eR (hK65 _ hkK65))
          refine rB ?_
          refine rT ?_
          cases soI hkK65
          exact ⟨rfl, rfl, rfl, lb rfl, _, rfl⟩
      · replace hsK65 := cF c35 hsK65
        refine AWp.cdF rfl (by first | rfl | simp only [c35, Bool.not_true, Bool.not_false, cond_true, cond_false]) ?_
        refine AWp.exit ?_
        refine xT ?_
        refine xT ?_
        refine exL hsK65 fun hx => ?_
        subst hx
        exact oxI ⟨rfl, hkK65, (by first | (cbv; done) | ((repeat (cbv; simp only [c35])); first | done | cbv))⟩
    · rintro _ ⟨hkK65, rfl⟩
      have h := (eL (hK65 _ hkK65))
      refine xB ?_
      refine nT ?_
      refine AWp.seq ?_
      refine AWp.rg hT hA {} (by cbv) (lb rfl) ?_
      refine nT ?_
      refine AWp.ret ?_
      cases soI h
      exact ⟨rfl, rfl, rfl, lb rfl, _, rfl⟩
  · replace h := cF c3 h
    refine AWp.cdT rfl (by first | rfl | simp only [c3, Bool.not_true, Bool.not_false, cond_true, cond_false]) ?_
    refine AWp.seq ?_
    refine AWp.rg hT hA {} (by (repeat (cbv; simp only [c3])); first | done | cbv) (lb rfl) ?_
    refine nT ?_
    refine AWp.ret ?_
    refine rT ?_
    cases soI h
    exact ⟨rfl, rfl, rfl, lb rfl, _, rfl⟩

theorem E98w {A : Ar} (hA : A = Ar.std) {x1 : List D} {x2 : List D} {v9 : Int} (h : E98 A x1 x2 = some v9) : ACall Try.prog 98 [(.d (.list 1 x1)), (.d (.list 1 x2))] [] (.d (.int .i64 v9)) [] := by
  unfold E98 at h
  refine ACall.enter hT (fn := Try.f98) Try.func98 rfl (by decide) (by simp [Try.f98]) rfl rfl rfl rfl (lb rfl) ?_
  refine AWp.seq ?_
  refine AWp.rg hT hA {} (by cbv) (lb rfl) ?_
  refine nT ?_
  refine AWp.seq ?_
  refine AWp.block ?_
  refine AWp.seq ?_
  refine AWp.region ?_
  obtain ⟨r4, e3, h⟩ := bindS h
  refine AOps.cc hT hA {} (by cbv) (lb rfl) (E20w hA e3) rfl (.inl rfl) rfl rfl rfl (lb rfl) rfl rfl ?_
  refine AOps.cd hT hA {} (by cbv) (lb rfl) ?_
  refine nT ?_
  rcases tf r4 with c5 | c5
  · replace h := cT c5 h
    refine AWp.cdF rfl (by first | rfl | simp only [c5, Bool.not_true, Bool.not_false, cond_true, cond_false]) ?_
    refine AWp.seq ?_
    refine AWp.region ?_
    obtain ⟨r7, e6, h⟩ := bindS h
    refine AOps.cc hT hA {} (by (repeat (cbv; simp only [c5])); first | done | cbv) (lb rfl) (E93w hA e6) rfl (.inl rfl) rfl rfl rfl (lb rfl) rfl rfl ?_
    refine AOps.cd hT hA {} (by (repeat (cbv; simp only [c5])); first | done | cbv) (lb rfl) ?_
    refine nT ?_
    rcases tf r7 with c8 | c8
    · replace h := cT c8 h
      refine AWp.cdF rfl (by first | rfl | simp only [c5, c8, Bool.not_true, Bool.not_false, cond_true, cond_false]) ?_
      refine AWp.skip ?_
      refine nB ?_
      refine nT ?_
      refine AWp.seq ?_
      refine AWp.rg hT hA {} (by (repeat (cbv; simp only [c5, c8])); first | done | cbv) (lb rfl) ?_
      refine nT ?_
      refine AWp.ret ?_
      cases soI h
      exact ⟨rfl, rfl, rfl, lb rfl, _, rfl⟩
    · replace h := cF c8 h
      refine AWp.cdT rfl (by first | rfl | simp only [c5, c8, Bool.not_true, Bool.not_false, cond_true, cond_false]) ?_
      refine AWp.seq ?_
      refine AWp.rg hT hA {} (by (repeat (cbv; simp only [c5, c8])); first | done | cbv) (lb rfl) ?_
      refine nT ?_
      refine AWp.ret ?_
      refine rB ?_
      refine rT ?_
      cases soI h
      exact ⟨rfl, rfl, rfl, lb rfl, _, rfl⟩
  · replace h := cF c5 h
    refine AWp.cdT rfl (by first | rfl | simp only [c5, Bool.not_true, Bool.not_false, cond_true, cond_false]) ?_
    refine AWp.seq ?_
    refine AWp.rg hT hA {} (by (repeat (cbv; simp only [c5])); first | done | cbv) (lb rfl) ?_
    refine nT ?_
    refine AWp.ret ?_
    refine rB ?_
    refine rT ?_
    cases soI h
    exact ⟨rfl, rfl, rfl, lb rfl, _, rfl⟩

theorem E139w {A : Ar} (hA : A = Ar.std) {x1 : List D} {v17 : Int} (h : E139 A x1 = some v17) : ACall Try.prog 139 [(.d (.list 1 x1))] [] (.d (.int .i64 v17)) [] := by
  unfold E139 at h
  refine ACall.enter hT (fn := Try.f139) Try.func139 rfl (by decide) (by simp [Try.f139]) rfl rfl rfl rfl (lb rfl) ?_
  refine AWp.seq ?_
  refine AWp.rg hT hA {} (by cbv) (lb rfl) ?_
  refine nT ?_
  refine AWp.seq ?_
  refine AWp.rg hT hA {} (by cbv) (lb rfl) ?_
  refine nT ?_
  refine AWp.seq ?_
  refine AWp.seq ?_
  refine AWp.rg hT hA {} (by cbv) (lb rfl) ?_
  refine nT ?_
  refine AWp.block ?_
  obtain ⟨xK16, hxK16, K16, hK16, hkK16⟩ := bindK h
  refine AWp.cutX 0 [3] [] 0 (lb rfl) (fun τ => K16 (.inl ()) = some v17 ∧ τ = { env := [(3, (.d (.int .i64 0)))], heap := [], n := 18 }) ?_ ?_
  · skip
    refine AWp.iter hxK16 [3, 6, 7, 8] [] 0 (lb rfl) (fun v8 => { env := [(3, (.d (.int .i64 0))), (6, (.d (.list 1 x1))), (7, (.d (.int .i64 (A.len x1)))), (8, (.d (.int .i64 v8)))], heap := [], n := 18 }) ⟨rfl, (by cbv)⟩ ?_
    rintro v8 eK16 hsK16
    dsimp only [E139L0] at hsK16
    refine AWp.seq ?_
    refine AWp.rg hT hA {} (by cbv) (lb rfl) ?_
    refine nT ?_
    refine AWp.seq ?_
    rcases tf (A.zlt v8 (A.len x1)) with c9 | c9
    · replace hsK16 := cT c9 hsK16
      refine AWp.cdT rfl (by first | rfl | simp only [c9, Bool.not_true, Bool.not_false, cond_true, cond_false]) ?_
      refine AWp.skip ?_
      refine nT ?_
      refine AWp.seq ?_
      refine AWp.block ?_
      refine AWp.seq ?_
      obtain ⟨a10, e11, hsK16⟩ := bindS hsK16
      obtain ⟨f12, f13⟩ := gtI e11
      refine AWp.rg hT hA { tk := [11] } (by (repeat (cbv; simp only [c9, f12, f13])); first | done | cbv) (lb rfl) ?_
      refine nT ?_
      refine AWp.seq ?_
      refine AWp.rg hT hA {} (by (repeat (cbv; simp only [c9])); first | done | cbv) (lb rfl) ?_
      refine nT ?_
      rcases tf (A.zeq a10 0) with c14 | c14
      · replace hsK16 := cT c14 hsK16
        refine AWp.cdF rfl (by first | rfl | simp only [c9, c14, Bool.not_true, Bool.not_false, cond_true, cond_false]) ?_
        refine AWp.skip ?_
        refine nB ?_
        refine nT ?_
        refine AWp.rg hT hA {} (by (repeat (cbv; simp only [c9, c14])); first | done | cbv) (lb rfl) ?_
        exact nT ⟨_, (soI hsK16).symm, rfl, (by first | (cbv; done) | ((repeat (cbv; simp only [c9, c14])); first | done | cbv))⟩
      · replace hsK16 := cF c14 hsK16
        refine AWp.cdT rfl (by first | rfl | simp only [c9, c14, Bool.not_true, Bool.not_false, cond_true, cond_false]) ?_
        refine AWp.seq ?_
        refine AWp.rg hT hA { tk := [5, 15] } (by (repeat (cbv; simp only [c9, c14])); first | done | cbv) (lb rfl) ?_
        refine nT ?_
        refine AWp.ret ?_
        refine rB ?_
        refine rT ?_
        refine rT ?_
        refine exL hsK16 fun hx => ?_
        subst hx
        refine oxR ?_
        replace hkK16 := (eR (hK16 _ hkK16))
        refine rB ?_
        refine rT ?_
        cases soI hkK16
        exact ⟨rfl, rfl, rfl, lb rfl, _, rfl⟩
    · replace hsK16 := cF c9 hsK16
      refine AWp.cdF rfl (by first | rfl | simp only [c9, Bool.not_true, Bool.not_false, cond_true, cond_false]) ?_
      refine AWp.exit ?_
      refine xT ?_
      refine xT ?_
      refine exL hsK16 fun hx => ?_
      subst hx
      exact oxI ⟨rfl, hkK16, (by first | (cbv; done) | ((repeat (cbv; simp only [c9])); first | done | cbv))⟩
  · rintro _ ⟨hkK16, rfl⟩
    have h := (eL (hK16 _ hkK16))
    refine xB ?_
    refine nT ?_
    refine AWp.seq ?_
    refine AWp.rg hT hA { tk := [3, 17] } (by cbv) (lb rfl) ?_
    refine nT ?_
    refine AWp.ret ?_
    cases soI h
    exact ⟨rfl, rfl, rfl, lb rfl, _, rfl⟩

theorem E138w {A : Ar} (hA : A = Ar.std) {x1 : Int} {x2 : Int} {x3 : Int} {x4 : Int} {v11 : Int} (h : E138 A x1 x2 x3 x4 = some v11) : ACall Try.prog 138 [(.d (.agg [(.int .i64 x1), (.int .i64 x2)])), (.d (.agg [(.int .i64 x3), (.int .i64 x4)]))] [] (.d (.int .i64 v11)) [] := by
  unfold E138 at h
  refine ACall.enter hT (fn := Try.f138) Try.func138 rfl (by decide) (by simp [Try.f138]) rfl rfl rfl rfl (lb rfl) ?_
  refine AWp.seq ?_
  refine AWp.rg hT hA {} (by cbv) (lb rfl) ?_
  refine nT ?_
  refine AWp.seq ?_
  refine AWp.regionDraw rfl (lb rfl) ?_
  obtain ⟨r6, e5, h⟩ := bindS h
  refine DOps.c0 hT hA { tk := [16] } rfl (by cbv) (E109w hA e5) rfl rfl (lb rfl) rfl rfl ?_
  obtain ⟨r8, e7, h⟩ := bindS h
  refine DOps.c0 hT hA { tk := [16] } rfl (by cbv) (E109w hA e7) rfl rfl (lb rfl) rfl rfl ?_
  obtain ⟨r10, e9, h⟩ := bindS h
  refine DOps.c0 hT hA { tk := [16] } rfl (by cbv) (E139w hA e9) rfl rfl (lb rfl) rfl rfl ?_
  refine DOps.cd hT hA { tk := [16] } rfl (by cbv) (by kernel_rfl) ?_
  refine nT ?_
  refine AWp.ret ?_
  cases soI h
  exact ⟨rfl, rfl, rfl, lb rfl, _, rfl⟩

theorem E137w {A : Ar} (hA : A = Ar.std) {x1 : List D} {x2 : List D} {v37 : Int} (h : E137 A x1 x2 = some v37) : ACall Try.prog 137 [(.d (.list 2 x1)), (.d (.list 2 x2)), (.func 138 [] [])] [] (.d (.int .i64 v37)) [] := by
  unfold E137 at h
  refine ACall.enter hT (fn := Try.f137) Try.func137 rfl (by decide) (by simp [Try.f137]) rfl rfl rfl rfl (lb rfl) ?_
  refine AWp.seq ?_
  refine AWp.rg hT hA {} (by cbv) (lb rfl) ?_
  refine nT ?_
  refine AWp.seq ?_
  refine AWp.seq ?_
  refine AWp.rg hT hA {} (by cbv) (lb rfl) ?_
  refine nT ?_
  refine AWp.block ?_
  obtain ⟨xK35, hxK35, K35, hK35, hkK35⟩ := bindK h
  refine AWp.cutX 0 [0, 1] [] 0 (lb rfl) (fun τ => K35 (.inl ()) = some v37 ∧ τ = { env := [(0, (.d (.list 2 x1))), (1, (.d (.list 2 x2)))], heap := [], n := 39 }) ?_ ?_
  · skip
    refine AWp.iter hxK35 [0, 1, 2, 11, 12, 13] [] 0 (lb rfl) (fun v18 => { env := [(0, (.d (.list 2 x1))), (1, (.d (.list 2 x2))), (2, (.func 138 [] [])), (11, (.d (.list 2 x1))), (12, (.d (.int .i64 (A.len x1)))), (13, (.d (.int .i64 v18)))], heap := [], n := 39 }) ⟨rfl, (by cbv)⟩ ?_
    rintro v18 eK35 hsK35
    dsimp only [E137L0] at hsK35
    refine AWp.seq ?_
    refine AWp.rg hT hA {} (by cbv) (lb rfl) ?_
    refine nT ?_
    refine AWp.seq ?_
    rcases tf (A.zlt v18 (A.len x1)) with c19 | c19
    · replace hsK35 := cT c19 hsK35
      refine AWp.cdT rfl (by first | rfl | simp only [c19, Bool.not_true, Bool.not_false, cond_true, cond_false]) ?_
      refine AWp.skip ?_
      refine nT ?_
      refine AWp.seq ?_
      refine AWp.block ?_
      refine AWp.seq ?_
      obtain ⟨⟨a20, a21⟩, e22, hsK35⟩ := bindS hsK35
      obtain ⟨f23, f24⟩ := gtI e22
      refine AWp.rg hT hA { tk := [17] } (by (repeat (cbv; simp only [c19, f23, f24])); first | done | cbv) (lb rfl) ?_
      refine nT ?_
      refine AWp.seq ?_
      refine AWp.seq ?_
      refine AWp.rg hT hA {} (by (repeat (cbv; simp only [c19])); first | done | cbv) (lb rfl) ?_
      refine nT ?_
      rcases tf (A.zle (A.len x2) v18) with c25 | c25
      · replace hsK35 := cT c25 hsK35
        refine AWp.cdT rfl (by first | rfl | simp only [c19, c25, Bool.not_true, Bool.not_false, cond_true, cond_false]) ?_
        refine AWp.seq ?_
        refine AWp.rg hT hA {} (by (repeat (cbv; simp only [c19, c25])); first | done | cbv) (lb rfl) ?_
        refine nT ?_
        refine AWp.ret ?_
        refine rT ?_
        refine rB ?_
        refine rT ?_
        refine rT ?_
        refine exL hsK35 fun hx => ?_
        subst hx
        refine oxR ?_
        replace hkK35 := (eR (hK35 _ hkK35))
        refine rB ?_
        refine rT ?_
        cases soI hkK35
        exact ⟨rfl, rfl, rfl, lb rfl, _, rfl⟩
      · replace hsK35 := cF c25 hsK35
        refine AWp.cdF rfl (by first | rfl | simp only [c19, c25, Bool.not_true, Bool.not_false, cond_true, cond_false]) ?_
        refine AWp.skip ?_
        refine nT ?_
        refine AWp.seq ?_
        obtain ⟨⟨a26, a27⟩, e28, hsK35⟩ := bindS hsK35
        obtain ⟨f29, f30⟩ := gtI e28
        refine AWp.rg hT hA { tk := [25] } (by (repeat (cbv; simp only [c19, c25, f29, f30])); first | done | cbv) (lb rfl) ?_
        refine nT ?_
        refine AWp.seq ?_
        refine AWp.region ?_
        obtain ⟨r32, e31, hsK35⟩ := bindS hsK35
        refine AOps.cc hT hA { tk := [29] } (by (repeat (cbv; simp only [c19, c25])); first | done | cbv) (lb rfl) (E138w hA e31) rfl (.inl rfl) rfl rfl rfl (lb rfl) rfl rfl ?_
        refine AOps.cd hT hA { tk := [29] } (by (repeat (cbv; simp only [c19, c25])); first | done | cbv) (lb rfl) ?_
        refine nT ?_
        refine AWp.seq ?_
        refine AWp.rg hT hA {} (by (repeat (cbv; simp only [c19, c25])); first | done | cbv) (lb rfl) ?_
        refine nT ?_
        rcases tf (A.zeq r32 0) with c33 | c33
        · replace hsK35 := cT c33 hsK35
          refine AWp.cdF rfl (by first | rfl | simp only [c19, c25, c33, Bool.not_true, Bool.not_false, cond_true, cond_false]) ?_
          refine AWp.skip ?_
          refine nB ?_
          refine nT ?_
          refine AWp.rg hT hA {} (by (repeat (cbv; simp only [c19, c25, c33])); first | done | cbv) (lb rfl) ?_
          exact nT ⟨_, (soI hsK35).symm, rfl, (by first | (cbv; done) | ((repeat (cbv; simp only [c19, c25, c33])); first | done | cbv))⟩
        · replace hsK35 := cF c33 hsK35
          refine AWp.cdT rfl (by first | rfl | simp only [c19, c25, c33, Bool.not_true, Bool.not_false, cond_true, cond_false]) ?_
          refine AWp.seq ?_
          refine AWp.rg hT hA { tk := [10, 32] } (by (repeat (cbv; simp only [c19, c25, c33])); first | done | cbv) (lb rfl) ?_
          refine nT ?_
          refine AWp.ret ?_
          refine rB ?_
          refine rT ?_
          refine rT ?_
          refine exL hsK35 fun hx => ?_
          subst hx
          refine oxR ?_
          replace hkK35 := (eR (hK35 _ hkK35))
          refine rB ?_
          refine rT ?_
          cases soI hkK35
          exact ⟨rfl, rfl, rfl, lb rfl, _, rfl⟩
    · replace hsK35 := cF c19 hsK35
      refine AWp.cdF rfl (by first | rfl | simp only [c19, Bool.not_true, Bool.not_false, cond_true, cond_false]) ?_
      refine AWp.exit ?_
      refine xT ?_
      refine xT ?_
      refine exL hsK35 fun hx => ?_
      subst hx
      exact oxI ⟨rfl, hkK35, (by first | (cbv; done) | ((repeat (cbv; simp only [c19])); first | done | cbv))⟩
  · rintro _ ⟨hkK35, rfl⟩
    have h := (eL (hK35 _ hkK35))
    refine xB ?_
    refine nT ?_
    refine AWp.seq ?_
    refine AWp.seq ?_
    refine AWp.rg hT hA {} (by cbv) (lb rfl) ?_
    refine nT ?_
    rcases tf (A.zlt (A.len x1) (A.len x2)) with c36 | c36
    · replace h := cT c36 h
      refine AWp.cdT rfl (by first | rfl | simp only [c36, Bool.not_true, Bool.not_false, cond_true, cond_false]) ?_
      refine AWp.seq ?_
      refine AWp.rg hT hA {} (by (repeat (cbv; simp only [c36])); first | done | cbv) (lb rfl) ?_
      refine nT ?_
      refine AWp.ret ?_
      refine rT ?_
      cases soI h
      exact ⟨rfl, rfl, rfl, lb rfl, _, rfl⟩
    · replace h := cF c36 h
      refine AWp.cdF rfl (by first | rfl | simp only [c36, Bool.not_true, Bool.not_false, cond_true, cond_false]) ?_
      refine AWp.skip ?_
      refine nT ?_
      refine AWp.seq ?_
      refine AWp.rg hT hA {} (by (repeat (cbv; simp only [c36])); first | done | cbv) (lb rfl) ?_
      refine nT ?_
      refine AWp.ret ?_
      cases soI h
      exact ⟨rfl, rfl, rfl, lb rfl, _, rfl⟩

theorem E130w {A : Ar} (hA : A = Ar.std) {x1 : List D} {x2 : List D} {v5 : Int} (h : E130 A x1 x2 = some v5) : ACall Try.prog 130 [(.d (.list 2 x1)), (.d (.list 2 x2))] [] (.d (.int .i64 v5)) [] := by
  unfold E130 at h
  refine ACall.enter hT (fn := Try.f130) Try.func130 rfl (by decide) (by simp [Try.f130]) rfl rfl rfl rfl (lb rfl) ?_
  refine AWp.seq ?_
  refine AWp.rg hT hA {} (by cbv) (lb rfl) ?_
  refine nT ?_
  refine AWp.seq ?_
  refine AWp.region ?_
  obtain ⟨r4, e3, h⟩ := bindS h
  refine AOps.cc hT hA { tk := [7] } (by cbv) (lb rfl) (E137w hA e3) rfl (.inl rfl) rfl rfl rfl (lb rfl) rfl rfl ?_
  refine AOps.cd hT hA { tk := [7] } (by cbv) (lb rfl) ?_
  refine nT ?_
  refine AWp.ret ?_
  cases soI h
  exact ⟨rfl, rfl, rfl, lb rfl, _, rfl⟩

theorem E99w {A : Ar} (hA : A = Ar.std) {x1 : List D} {x2 : List D} {x3 : List D} {v115 : List D} (h : E99 A x1 x2 x3 = some v115) : ACall Try.prog 99 [(.d (.list 1 x1)), (.d (.list 1 x2)), (.d (.list 3 x3))] [] (.own 2 v115) [] := by
  unfold E99 at h
  refine ACall.enter hT (fn := Try.f99) Try.func99 rfl (by decide) (by simp [Try.f99]) rfl rfl rfl rfl (lb rfl) ?_
  refine AWp.seq ?_
  refine AWp.rg hT hA {} (by cbv) (lb rfl) ?_
  refine nT ?_
  refine AWp.seq ?_
  refine AWp.region ?_
  obtain ⟨r5, e4, h⟩ := bindS h
  refine AOps.cc hT hA {} (by cbv) (lb rfl) (E104w hA e4) rfl (.inl rfl) rfl rfl rfl (lb rfl) rfl rfl ?_
  refine AOps.cd hT hA {} (by cbv) (lb rfl) ?_
  refine nT ?_
  refine AWp.seq ?_
  refine AWp.rg hT hA {} (by cbv) (lb rfl) ?_
  refine nT ?_
  refine AWp.seq ?_
  refine AWp.seq ?_
  obtain ⟨_, e6, h⟩ := bindS h
  have f7 := nkI e6
  refine AWp.rg hT hA {} (by (repeat (cbv; simp only [f7])); first | done | cbv) (lb rfl) ?_
  refine nT ?_
  refine AWp.block ?_
  obtain ⟨xK114, hxK114, K114, hK114, hkK114⟩ := bindK h
  refine AWp.cutX 0 [8] [] 0 (lb rfl) (fun τ => ∃ v113, K114 v113 = some v115 ∧ τ = { env := [(8, (.own 2 v113))], heap := [], n := 70 }) ?_ ?_
  · skip
    refine AWp.iter hxK114 [1, 2, 7, 8, 9, 10, 20, 21] [] 0 (lb rfl) (fun (v52, v53, v54, v55) => { env := [(1, (.d (.list 1 x2))), (2, (.d (.list 3 x3))), (7, (.d (.list 2 r5))), (8, (.own 2 v52)), (9, (.d (.int .i64 v53))), (10, (.d (.bool v54))), (20, (.d (.int .i64 (A.shl .i64 1 (A.len r5))))), (21, (.d (.int .i64 v55)))], heap := [], n := 70 }) ⟨rfl, (by cbv)⟩ ?_
    rintro ⟨v52, v53, v54, v55⟩ eK114 hsK114
    dsimp only [E99L1] at hsK114
    refine AWp.seq ?_
    refine AWp.rg hT hA {} (by cbv) (lb rfl) ?_
    refine nT ?_
    refine AWp.seq ?_
    rcases tf (A.zlt v55 (A.shl .i64 1 (A.len r5))) with c56 | c56
    · replace hsK114 := cT c56 hsK114
      refine AWp.cdT rfl (by first | rfl | simp only [c56, Bool.not_true, Bool.not_false, cond_true, cond_false]) ?_
      refine AWp.skip ?_
      refine nT ?_
      refine AWp.seq ?_
      obtain ⟨⟨v109, v110, v111⟩, hvK112, hsK114⟩ := bindS hsK114
      refine AWp.cutN [1, 2, 7, 8, 9, 10, 20, 21] [] 0 (lb rfl) (fun τ => τ = { env := [(1, (.d (.list 1 x2))), (2, (.d (.list 3 x3))), (7, (.d (.list 2 r5))), (8, (.own 2 v109)), (9, (.d (.int .i64 v110))), (10, (.d (.bool v111))), (20, (.d (.int .i64 (A.shl .i64 1 (A.len r5))))), (21, (.d (.int .i64 v55)))], heap := [], n := 70 }) ?_ ?_
      · skip
        refine AWp.block ?_
        refine AWp.seq ?_
        refine AWp.rg hT hA {} (by (repeat (cbv; simp only [c56])); first | done | cbv) (lb rfl) ?_
        refine nT ?_
        refine AWp.seq ?_
        refine AWp.rg hT hA {} (by (repeat (cbv; simp only [c56])); first | done | cbv) (lb rfl) ?_
        refine nT ?_
        refine AWp.seq ?_
        refine AWp.seq ?_
        refine AWp.rg hT hA {} (by (repeat (cbv; simp only [c56])); first | done | cbv) (lb rfl) ?_
        refine nT ?_
        refine AWp.block ?_
        obtain ⟨xK90, hxK90, K90, hK90, hkK90⟩ := bindK hvK112
        refine AWp.cutX 2 [1, 2, 7, 8, 9, 10, 12, 20, 21] [] 0 (lb rfl) (fun τ => ∃ v89, K90 v89 = some (v109, v110, v111) ∧ τ = { env := [(1, (.d (.list 1 x2))), (2, (.d (.list 3 x3))), (7, (.d (.list 2 r5))), (8, (.own 2 v52)), (9, (.d (.int .i64 v53))), (10, (.d (.bool v54))), (12, (.own 2 v89)), (20, (.d (.int .i64 (A.shl .i64 1 (A.len r5))))), (21, (.d (.int .i64 v55)))], heap := [], n := 70 }) ?_ ?_
        · skip
          refine AWp.iter hxK90 [1, 2, 7, 8, 9, 10, 11, 12, 20, 21, 24, 25, 26] [] 0 (lb rfl) (fun (v72, v73) => { env := [(1, (.d (.list 1 x2))), (2, (.d (.list 3 x3))), (7, (.d (.list 2 r5))), (8, (.own 2 v52)), (9, (.d (.int .i64 v53))), (10, (.d (.bool v54))), (11, (.d (.int .i64 v55))), (12, (.own 2 v72)), (20, (.d (.int .i64 (A.shl .i64 1 (A.len r5))))), (21, (.d (.int .i64 v55))), (24, (.d (.list 2 r5))), (25, (.d (.int .i64 (A.len r5)))), (26, (.d (.int .i64 v73)))], heap := [], n := 70 }) ⟨rfl, (by first | (cbv; done) | ((repeat (cbv; simp only [c56])); first | done | cbv))⟩ ?_
          rintro ⟨v72, v73⟩ eK90 hsK90
          dsimp only [E99L0] at hsK90
          refine AWp.seq ?_
          refine AWp.rg hT hA {} (by cbv) (lb rfl) ?_
          refine nT ?_
          refine AWp.seq ?_
          rcases tf (A.zlt v73 (A.len r5)) with c74 | c74
          · replace hsK90 := cT c74 hsK90
            refine AWp.cdT rfl (by first | rfl | simp only [c74, Bool.not_true, Bool.not_false, cond_true, cond_false]) ?_
            refine AWp.skip ?_
            refine nT ?_
            refine AWp.seq ?_
            refine AWp.block ?_
            refine AWp.seq ?_
            obtain ⟨⟨a75, a76⟩, e77, hsK90⟩ := bindS hsK90
            obtain ⟨f78, f79⟩ := gtI e77
            refine AWp.rg hT hA { tk := [30] } (by (repeat (cbv; simp only [c74, f78, f79])); first | done | cbv) (lb rfl) ?_
            refine nT ?_
            refine AWp.seq ?_
            obtain ⟨_, e80, hsK90⟩ := bindS hsK90
            have f81 := nkI e80
            refine AWp.rg hT hA {} (by (repeat (cbv; simp only [c74, f81])); first | done | cbv) (lb rfl) ?_
            refine nT ?_
            obtain ⟨v87, hvK88, hsK90⟩ := bindS hsK90
            refine AWp.cutN [1, 2, 7, 8, 9, 10, 11, 12, 20, 21, 24, 25, 26] [] 0 (lb rfl) (fun τ => τ = { env := [(1, (.d (.list 1 x2))), (2, (.d (.list 3 x3))), (7, (.d (.list 2 r5))), (8, (.own 2 v52)), (9, (.d (.int .i64 v53))), (10, (.d (.bool v54))), (11, (.d (.int .i64 v55))), (12, (.own 2 v87)), (20, (.d (.int .i64 (A.shl .i64 1 (A.len r5))))), (21, (.d (.int .i64 v55))), (24, (.d (.list 2 r5))), (25, (.d (.int .i64 (A.len r5)))), (26, (.d (.int .i64 v73)))], heap := [], n := 70 }) ?_ ?_
            · skip
              rcases tf (A.zeq (A.bits .and .i64 (A.shr .i64 v55 v73) 1) 1) with c82 | c82
              · replace hvK88 := cT c82 hvK88
                refine AWp.cdT rfl (by first | rfl | simp only [c74, c82, Bool.not_true, Bool.not_false, cond_true, cond_false]) ?_
                obtain ⟨l83, e84, hvK88⟩ := bindS hvK88
                obtain ⟨f85, f86⟩ := apI e84
                refine AWp.rg hT hA { tk := [12, 39] } (by (repeat (cbv; simp only [c74, c82, f85, f86])); first | done | cbv) (lb rfl) ?_
                cases soI hvK88
                exact oNi ⟨rfl, (by first | (cbv; done) | ((repeat (cbv; simp only [c74, c82])); first | done | cbv))⟩
              · replace hvK88 := cF c82 hvK88
                refine AWp.cdF rfl (by first | rfl | simp only [c74, c82, Bool.not_true, Bool.not_false, cond_true, cond_false]) ?_
                refine AWp.skip ?_
                cases soI hvK88
                exact oNi ⟨rfl, (by first | (cbv; done) | ((repeat (cbv; simp only [c74, c82])); first | done | cbv))⟩
            · rintro _ rfl
              refine nB ?_
              refine nT ?_
              refine AWp.rg hT hA {} (by cbv) (lb rfl) ?_
              exact nT ⟨_, (soI hsK90).symm, rfl, (by cbv)⟩
          · replace hsK90 := cF c74 hsK90
            refine AWp.cdF rfl (by first | rfl | simp only [c74, Bool.not_true, Bool.not_false, cond_true, cond_false]) ?_
            refine AWp.exit ?_
            refine xT ?_
            refine xT ?_
            refine exL hsK90 fun hx => ?_
            subst hx
            exact oxI ⟨rfl, _, hkK90, (by first | (cbv; done) | ((repeat (cbv; simp only [c74])); first | done | cbv))⟩
        · rintro _ ⟨v89, hkK90, rfl⟩
          have hvK112 := (hK90 _ hkK90)
          refine xB ?_
          refine nT ?_
          refine AWp.seq ?_
          refine AWp.seq ?_
          refine AWp.region ?_
          obtain ⟨r92, e91, hvK112⟩ := bindS hvK112
          refine AOps.cc hT hA {} (by cbv) (lb rfl) (E91w hA e91) rfl (.inl rfl) rfl rfl rfl (lb rfl) rfl rfl ?_
          refine AOps.cd hT hA {} (by cbv) (lb rfl) ?_
          refine nT ?_
          rcases tf r92 with c93 | c93
          · replace hvK112 := cT c93 hvK112
            refine AWp.cdF rfl (by first | rfl | simp only [c93, Bool.not_true, Bool.not_false, cond_true, cond_false]) ?_
            refine AWp.skip ?_
            refine nT ?_
            refine AWp.seq ?_
            refine AWp.region ?_
            obtain ⟨r95, e94, hvK112⟩ := bindS hvK112
            refine AOps.cc hT hA {} (by (repeat (cbv; simp only [c93])); first | done | cbv) (lb rfl) (E94w hA e94) rfl (.inl rfl) rfl rfl rfl (lb rfl) rfl rfl ?_
            refine AOps.cd hT hA {} (by (repeat (cbv; simp only [c93])); first | done | cbv) (lb rfl) ?_
            refine nT ?_
            refine AWp.seq ?_
            obtain ⟨⟨v101, v102⟩, hvK103, hvK112⟩ := bindS hvK112
            refine AWp.cutN [1, 2, 7, 8, 9, 10, 12, 15, 20, 21, 65] [] 0 (lb rfl) (fun τ => τ = { env := [(1, (.d (.list 1 x2))), (2, (.d (.list 3 x3))), (7, (.d (.list 2 r5))), (8, (.own 2 v52)), (9, (.d (.int .i64 v53))), (10, (.d (.bool v101))), (12, (.own 2 v89)), (15, (.d (.int .i64 r95))), (20, (.d (.int .i64 (A.shl .i64 1 (A.len r5))))), (21, (.d (.int .i64 v55))), (65, (.d (.bool v102)))], heap := [], n := 70 }) ?_ ?_
            · skip
              refine AWp.region ?_
              rcases tf v54 with c96 | c96
              · replace hvK103 := cT c96 hvK103
                rcases tf (A.zlt r95 v53) with c97 | c97
                · replace hvK103 := cT c97 hvK103
                  refine AOps.cd hT hA {} (by (repeat (cbv; simp only [c93, c96, c97])); first | done | cbv) (lb rfl) ?_
                  cases soI hvK103
                  exact oNi ⟨rfl, (by first | (cbv; done) | ((repeat (cbv; simp only [c93, c96, c97])); first | done | cbv))⟩
                · replace hvK103 := cF c97 hvK103
                  rcases tf (A.zeq r95 v53) with c98 | c98
                  · replace hvK103 := cT c98 hvK103
                    obtain ⟨r100, e99, hvK103⟩ := bindS hvK103
                    refine AOps.cc hT hA {} (by (repeat (cbv; simp only [c93, c96, c97, c98])); first | done | cbv) (lb rfl) (E130w hA e99) rfl (.inl rfl) rfl rfl rfl (lb rfl) rfl rfl ?_
                    refine AOps.cd hT hA {} (by (repeat (cbv; simp only [c93, c96, c97, c98])); first | done | cbv) (lb rfl) ?_
                    cases soI hvK103
                    exact oNi ⟨rfl, (by first | (cbv; done) | ((repeat (cbv; simp only [c93, c96, c97, c98])); first | done | cbv))⟩
                  · replace hvK103 := cF c98 hvK103
                    refine AOps.cd hT hA {} (by (repeat (cbv; simp only [c93, c96, c97, c98])); first | done | cbv) (lb rfl) ?_
                    cases soI hvK103
                    exact oNi ⟨rfl, (by first | (cbv; done) | ((repeat (cbv; simp only [c93, c96, c97, c98])); first | done | cbv))⟩
              · replace hvK103 := cF c96 hvK103
                refine AOps.cd hT hA {} (by (repeat (cbv; simp only [c93, c96])); first | done | cbv) (lb rfl) ?_
                cases soI hvK103
                exact oNi ⟨rfl, (by first | (cbv; done) | ((repeat (cbv; simp only [c93, c96])); first | done | cbv))⟩
            · rintro _ rfl
              refine nT ?_
              obtain ⟨⟨v105, v106, v107⟩, hvK108, hvK112⟩ := bindS hvK112
              refine AWp.cutN [1, 2, 7, 8, 9, 10, 20, 21] [] 0 (lb rfl) (fun τ => τ = { env := [(1, (.d (.list 1 x2))), (2, (.d (.list 3 x3))), (7, (.d (.list 2 r5))), (8, (.own 2 v105)), (9, (.d (.int .i64 v106))), (10, (.d (.bool v107))), (20, (.d (.int .i64 (A.shl .i64 1 (A.len r5))))), (21, (.d (.int .i64 v55)))], heap := [], n := 70 }) ?_ ?_
              · skip
                rcases tf v102 with c104 | c104
                · replace hvK108 := cT c104 hvK108
                  refine AWp.cdT rfl (by first | rfl | simp only [c104, Bool.not_true, Bool.not_false, cond_true, cond_false]) ?_
                  refine AWp.rg hT hA { tk := [12, 66] } (by (repeat (cbv; simp only [c104])); first | done | cbv) (lb rfl) ?_
                  cases soI hvK108
                  exact oNi ⟨rfl, (by first | (cbv; done) | ((repeat (cbv; simp only [c104])); first | done | cbv))⟩
                · replace hvK108 := cF c104 hvK108
                  refine AWp.cdF rfl (by first | rfl | simp only [c104, Bool.not_true, Bool.not_false, cond_true, cond_false]) ?_
                  refine AWp.skip ?_
                  cases soI hvK108
                  exact oNi ⟨rfl, (by first | (cbv; done) | ((repeat (cbv; simp only [c104])); first | done | cbv))⟩
              · rintro _ rfl
                refine nB ?_
                cases soI hvK112
                exact oNi ⟨rfl, (by cbv)⟩
          · replace hvK112 := cF c93 hvK112
            refine AWp.cdT rfl (by first | rfl | simp only [c93, Bool.not_true, Bool.not_false, cond_true, cond_false]) ?_
            refine AWp.exit ?_
            refine xT ?_
            refine xB ?_
            cases soI hvK112
            exact oNi ⟨rfl, (by first | (cbv; done) | ((repeat (cbv; simp only [c93])); first | done | cbv))⟩
      · rintro _ rfl
        refine nT ?_
        refine AWp.rg hT hA {} (by cbv) (lb rfl) ?_
        exact nT ⟨_, (soI hsK114).symm, rfl, (by cbv)⟩
    · replace hsK114 := cF c56 hsK114
      refine AWp.cdF rfl (by first | rfl | simp only [c56, Bool.not_true, Bool.not_false, cond_true, cond_false]) ?_
      refine AWp.exit ?_
      refine xT ?_
      refine xT ?_
      refine exL hsK114 fun hx => ?_
      subst hx
      exact oxI ⟨rfl, _, hkK114, (by first | (cbv; done) | ((repeat (cbv; simp only [c56])); first | done | cbv))⟩
  · rintro _ ⟨v113, hkK114, rfl⟩
    have h := (hK114 _ hkK114)
    refine xB ?_
    refine nT ?_
    refine AWp.seq ?_
    refine AWp.rg hT hA { tk := [8, 69] } (by cbv) (lb rfl) ?_
    refine nT ?_
    refine AWp.ret ?_
    cases soI h
    exact ⟨rfl, rfl, rfl, lb rfl, _, rfl⟩

theorem E52w {A : Ar} (hA : A = Ar.std) {x1 : List D} {x2 : List D} {v12 : Int} {v13 : Int} (h : E52 A x1 x2 = some (v12, v13)) : ACall Try.prog 52 [(.d (.list 1 x1)), (.d (.list 1 x2))] [] (.tuple [(.d (.int .i64 v12)), (.d (.int .i64 v13))]) [] := by
  unfold E52 at h
  refine ACall.enter hT (fn := Try.f52) Try.func52 rfl (by decide) (by simp [Try.f52]) rfl rfl rfl rfl (lb rfl) ?_
  refine AWp.seq ?_
  refine AWp.rg hT hA {} (by cbv) (lb rfl) ?_
  refine nT ?_
  refine AWp.seq ?_
  refine AWp.seq ?_
  refine AWp.region ?_
  obtain ⟨r4, e3, h⟩ := bindS h
  refine AOps.cc hT hA {} (by cbv) (lb rfl) (E98w hA e3) rfl (.inl rfl) rfl rfl rfl (lb rfl) rfl rfl ?_
  refine AOps.cd hT hA {} (by cbv) (lb rfl) ?_
  refine nT ?_
  refine AWp.seq ?_
  refine AWp.rg hT hA {} (by cbv) (lb rfl) ?_
  refine nT ?_
  rcases tf (A.zeq r4 0) with c5 | c5
  · replace h := cT c5 h
    refine AWp.cdF rfl (by first | rfl | simp only [c5, Bool.not_true, Bool.not_false, cond_true, cond_false]) ?_
    refine AWp.skip ?_
    refine nT ?_
    refine AWp.seq ?_
    refine AWp.region ?_
    obtain ⟨r7, e6, h⟩ := bindS h
    refine AOps.cc hT hA {} (by (repeat (cbv; simp only [c5])); first | done | cbv) (lb rfl) (E77w hA e6) rfl (.inl rfl) rfl rfl rfl (lb rfl) rfl rfl ?_
    obtain ⟨r9, e8, h⟩ := bindS h
    refine AOps.cc hT hA {} (by (repeat (cbv; simp only [c5])); first | done | cbv) (lb rfl) (E99w hA e8) rfl (.inl rfl) rfl rfl rfl (lb rfl) rfl rfl ?_
    obtain ⟨r11, e10, h⟩ := bindS h
    refine AOps.cc hT hA {} (by (repeat (cbv; simp only [c5])); first | done | cbv) (lb rfl) (E94w hA e10) rfl (.inl rfl) rfl rfl rfl (lb rfl) rfl rfl ?_
    refine AOps.cd hT hA {} (by (repeat (cbv; simp only [c5])); first | done | cbv) (lb rfl) ?_
    refine nT ?_
    refine AWp.ret ?_
    cases soI h
    exact ⟨rfl, rfl, rfl, lb rfl, _, rfl⟩
  · replace h := cF c5 h
    refine AWp.cdT rfl (by first | rfl | simp only [c5, Bool.not_true, Bool.not_false, cond_true, cond_false]) ?_
    refine AWp.seq ?_
    refine AWp.rg hT hA {} (by (repeat (cbv; simp only [c5])); first | done | cbv) (lb rfl) ?_
    refine nT ?_
    refine AWp.ret ?_
    refine rT ?_
    cases soI h
    exact ⟨rfl, rfl, rfl, lb rfl, _, rfl⟩

theorem E10w {A : Ar} (hA : A = Ar.std) {x1 : List D} {x2 : List D} {x3 : List D} {v76 : Bool} (h : E10 A x1 x2 x3 = some v76) : ACall Try.prog 10 [(.d (.list 1 x1)), (.d (.list 1 x2)), (.d (.list 1 x3))] [] (.d (.bool v76)) [] := by
  unfold E10 at h
  refine ACall.enter hT (fn := Try.f10) Try.func10 rfl (by decide) (by simp [Try.f10]) rfl rfl rfl rfl (lb rfl) ?_
  refine AWp.seq ?_
  refine AWp.rg hT hA {} (by cbv) (lb rfl) ?_
  refine nT ?_
  refine AWp.seq ?_
  refine AWp.seq ?_
  obtain ⟨v15, hvK16, h⟩ := bindS h
  refine AWp.cutN [0, 1, 2, 39] [] 0 (lb rfl) (fun τ => τ = { env := [(0, (.d (.list 1 x1))), (1, (.d (.list 1 x2))), (2, (.d (.list 1 x3))), (39, (.d (.bool v15)))], heap := [], n := 114 }) ?_ ?_
  · skip
    refine AWp.region ?_
    obtain ⟨r5, e4, hvK16⟩ := bindS hvK16
    refine AOps.cc hT hA {} (by cbv) (lb rfl) (E13w hA e4) rfl (.inl rfl) rfl rfl rfl (lb rfl) rfl rfl ?_
    rcases tf r5 with c6 | c6
    · replace hvK16 := cT c6 hvK16
      refine AOps.cd hT hA {} (by (repeat (cbv; simp only [c6])); first | done | cbv) (lb rfl) ?_
      cases soI hvK16
      exact oNi ⟨rfl, (by first | (cbv; done) | ((repeat (cbv; simp only [c6])); first | done | cbv))⟩
    · replace hvK16 := cF c6 hvK16
      obtain ⟨r8, e7, hvK16⟩ := bindS hvK16
      refine AOps.cc hT hA {} (by (repeat (cbv; simp only [c6])); first | done | cbv) (lb rfl) (E14w hA e7) rfl (.inl rfl) rfl rfl rfl (lb rfl) rfl rfl ?_
      rcases tf r8 with c9 | c9
      · replace hvK16 := cT c9 hvK16
        obtain ⟨r11, e10, hvK16⟩ := bindS hvK16
        refine AOps.cc hT hA {} (by (repeat (cbv; simp only [c6, c9])); first | done | cbv) (lb rfl) (E50w hA e10) rfl (.inl rfl) rfl rfl rfl (lb rfl) rfl rfl ?_
        rcases tf r11 with c12 | c12
        · replace hvK16 := cT c12 hvK16
          obtain ⟨r14, e13, hvK16⟩ := bindS hvK16
          refine AOps.cc hT hA {} (by (repeat (cbv; simp only [c6, c9, c12])); first | done | cbv) (lb rfl) (E51w hA e13) rfl (.inl rfl) rfl rfl rfl (lb rfl) rfl rfl ?_
          refine AOps.cd hT hA {} (by (repeat (cbv; simp only [c6, c9, c12])); first | done | cbv) (lb rfl) ?_
          cases soI hvK16
          exact oNi ⟨rfl, (by first | (cbv; done) | ((repeat (cbv; simp only [c6, c9, c12])); first | done | cbv))⟩
        · replace hvK16 := cF c12 hvK16
          refine AOps.cd hT hA {} (by (repeat (cbv; simp only [c6, c9, c12])); first | done | cbv) (lb rfl) ?_
          cases soI hvK16
          exact oNi ⟨rfl, (by first | (cbv; done) | ((repeat (cbv; simp only [c6, c9, c12])); first | done | cbv))⟩
      · replace hvK16 := cF c9 hvK16
        refine AOps.cd hT hA {} (by (repeat (cbv; simp only [c6, c9])); first | done | cbv) (lb rfl) ?_
        cases soI hvK16
        exact oNi ⟨rfl, (by first | (cbv; done) | ((repeat (cbv; simp only [c6, c9])); first | done | cbv))⟩
  · rintro _ rfl
    refine nT ?_
    rcases tf v15 with c17 | c17
    · replace h := cT c17 h
      refine AWp.cdT rfl (by first | rfl | simp only [c17, Bool.not_true, Bool.not_false, cond_true, cond_false]) ?_
      refine AWp.seq ?_
      refine AWp.region ?_
      obtain ⟨r19, e18, h⟩ := bindS h
      refine AOps.cc hT hA { tk := [40] } (by (repeat (cbv; simp only [c17])); first | done | cbv) (lb rfl) (E15w hA e18) rfl (.inl rfl) rfl rfl rfl (lb rfl) rfl rfl ?_
      refine AOps.cd hT hA { tk := [40] } (by (repeat (cbv; simp only [c17])); first | done | cbv) (lb rfl) ?_
      refine nT ?_
      refine AWp.ret ?_
      refine rT ?_
      cases soI h
      exact ⟨rfl, rfl, rfl, lb rfl, _, rfl⟩
    · replace h := cF c17 h
      refine AWp.cdF rfl (by first | rfl | simp only [c17, Bool.not_true, Bool.not_false, cond_true, cond_false]) ?_
      refine AWp.skip ?_
      refine nT ?_
      refine AWp.seq ?_
      refine AWp.region ?_
      obtain ⟨⟨r21, r22⟩, e20, h⟩ := bindS h
      refine AOps.cc hT hA {} (by (repeat (cbv; simp only [c17])); first | done | cbv) (lb rfl) (E48w hA e20) rfl (.inl rfl) rfl rfl rfl (lb rfl) rfl rfl ?_
      refine AOps.cd hT hA {} (by (repeat (cbv; simp only [c17])); first | done | cbv) (lb rfl) ?_
      refine nT ?_
      refine AWp.seq ?_
      refine AWp.rg hT hA {} (by (repeat (cbv; simp only [c17])); first | done | cbv) (lb rfl) ?_
      refine nT ?_
      refine AWp.seq ?_
      refine AWp.seq ?_
      refine AWp.rg hT hA {} (by (repeat (cbv; simp only [c17])); first | done | cbv) (lb rfl) ?_
      refine nT ?_
      refine AWp.block ?_
      obtain ⟨xK52, hxK52, K52, hK52, hkK52⟩ := bindK h
      refine AWp.cutX 0 [0, 1, 7, 8, 9] [] 0 (lb rfl) (fun τ => ∃ v51, K52 v51 = some v76 ∧ τ = { env := [(0, (.d (.list 1 x1))), (1, (.d (.list 1 x2))), (7, (.d (.list 1 r21))), (8, (.d (.int .i64 r22))), (9, (.own 1 v51))], heap := [], n := 114 }) ?_ ?_
      · skip
        refine AWp.iter hxK52 [0, 1, 7, 8, 9, 47, 48, 49] [] 0 (lb rfl) (fun (v36, v37) => { env := [(0, (.d (.list 1 x1))), (1, (.d (.list 1 x2))), (7, (.d (.list 1 r21))), (8, (.d (.int .i64 r22))), (9, (.own 1 v36)), (47, (.d (.list 1 x3))), (48, (.d (.int .i64 (A.len x3)))), (49, (.d (.int .i64 v37)))], heap := [], n := 114 }) ⟨rfl, (by first | (cbv; done) | ((repeat (cbv; simp only [c17])); first | done | cbv))⟩ ?_
        rintro ⟨v36, v37⟩ eK52 hsK52
        dsimp only [E10L0] at hsK52
        refine AWp.seq ?_
        refine AWp.rg hT hA {} (by cbv) (lb rfl) ?_
        refine nT ?_
        refine AWp.seq ?_
        rcases tf (A.zlt v37 (A.len x3)) with c38 | c38
        · replace hsK52 := cT c38 hsK52
          refine AWp.cdT rfl (by first | rfl | simp only [c38, Bool.not_true, Bool.not_false, cond_true, cond_false]) ?_
          refine AWp.skip ?_
          refine nT ?_
          refine AWp.seq ?_
          refine AWp.block ?_
          refine AWp.seq ?_
          obtain ⟨a39, e40, hsK52⟩ := bindS hsK52
          obtain ⟨f41, f42⟩ := gtI e40
          refine AWp.rg hT hA {} (by (repeat (cbv; simp only [c38, f41, f42])); first | done | cbv) (lb rfl) ?_
          refine nT ?_
          obtain ⟨a43, e44, hsK52⟩ := bindS hsK52
          obtain ⟨f45, f46⟩ := gtI e44
          obtain ⟨l47, e48, hsK52⟩ := bindS hsK52
          obtain ⟨f49, f50⟩ := apI e48
          refine AWp.rg hT hA { tk := [9, 59] } (by (repeat (cbv; simp only [c38, f45, f46, f49, f50])); first | done | cbv) (lb rfl) ?_
          refine nB ?_
          refine nT ?_
          refine AWp.rg hT hA {} (by (repeat (cbv; simp only [c38])); first | done | cbv) (lb rfl) ?_
          exact nT ⟨_, (soI hsK52).symm, rfl, (by first | (cbv; done) | ((repeat (cbv; simp only [c38])); first | done | cbv))⟩
        · replace hsK52 := cF c38 hsK52
          refine AWp.cdF rfl (by first | rfl | simp only [c38, Bool.not_true, Bool.not_false, cond_true, cond_false]) ?_
          refine AWp.exit ?_
          refine xT ?_
          refine xT ?_
          refine exL hsK52 fun hx => ?_
          subst hx
          exact oxI ⟨rfl, _, hkK52, (by first | (cbv; done) | ((repeat (cbv; simp only [c38])); first | done | cbv))⟩
      · rintro _ ⟨v51, hkK52, rfl⟩
        have h := (hK52 _ hkK52)
        refine xB ?_
        refine nT ?_
        refine AWp.seq ?_
        refine AWp.region ?_
        obtain ⟨⟨r54, r55⟩, e53, h⟩ := bindS h
        refine AOps.cc hT hA {} (by cbv) (lb rfl) (E16w hA e53) rfl (.inl rfl) rfl rfl rfl (lb rfl) rfl rfl ?_
        refine AOps.cd hT hA {} (by cbv) (lb rfl) ?_
        refine nT ?_
        refine AWp.seq ?_
        refine AWp.region ?_
        obtain ⟨⟨r57, r58⟩, e56, h⟩ := bindS h
        refine AOps.cc hT hA {} (by cbv) (lb rfl) (E16w hA e56) rfl (.inl rfl) rfl rfl rfl (lb rfl) rfl rfl ?_
        refine AOps.cd hT hA {} (by cbv) (lb rfl) ?_
        refine nT ?_
        refine AWp.seq ?_
        refine AWp.region ?_
        obtain ⟨⟨r60, r61⟩, e59, h⟩ := bindS h
        refine AOps.cc hT hA {} (by cbv) (lb rfl) (E52w hA e59) rfl (.inl rfl) rfl rfl rfl (lb rfl) rfl rfl ?_
        refine AOps.cd hT hA {} (by cbv) (lb rfl) ?_
        refine nT ?_
        refine AWp.seq ?_
        refine AWp.region ?_
        obtain ⟨⟨r63, r64⟩, e62, h⟩ := bindS h
        refine AOps.cc hT hA {} (by cbv) (lb rfl) (E52w hA e62) rfl (.inl rfl) rfl rfl rfl (lb rfl) rfl rfl ?_
        refine AOps.cd hT hA {} (by cbv) (lb rfl) ?_
        refine nT ?_
        refine AWp.seq ?_
        obtain ⟨v74, hvK75, h⟩ := bindS h
        refine AWp.cutN [6] [] 0 (lb rfl) (fun τ => τ = { env := [(6, (.d (.bool v74)))], heap := [], n := 114 }) ?_ ?_
        · skip
          refine AWp.region ?_
          rcases tf (A.zeq r22 0) with c65 | c65
          · replace hvK75 := cT c65 hvK75
            rcases tf (A.zeq r55 0) with c66 | c66
            · replace hvK75 := cT c66 hvK75
              rcases tf (A.zeq r58 0) with c67 | c67
              · replace hvK75 := cT c67 hvK75
                rcases tf (A.zeq r61 0) with c68 | c68
                · replace hvK75 := cT c68 hvK75
                  rcases tf (A.zeq r64 0) with c69 | c69
                  · replace hvK75 := cT c69 hvK75
                    rcases tf (A.zeq r54 r57) with c70 | c70
                    · replace hvK75 := cT c70 hvK75
                      rcases tf (A.zeq r60 r63) with c71 | c71
                      · replace hvK75 := cT c71 hvK75
                        obtain ⟨r73, e72, hvK75⟩ := bindS hvK75
                        refine AOps.cc hT hA { tk := [113] } (by (repeat (cbv; simp only [c65, c66, c67, c68, c69, c70, c71])); first | done | cbv) (lb rfl) (E15w hA e72) rfl (.inl rfl) rfl rfl rfl (lb rfl) rfl rfl ?_
                        refine AOps.cd hT hA { tk := [113] } (by (repeat (cbv; simp only [c65, c66, c67, c68, c69, c70, c71])); first | done | cbv) (lb rfl) ?_
                        cases soI hvK75
                        exact oNi ⟨rfl, (by first | (cbv; done) | ((repeat (cbv; simp only [c65, c66, c67, c68, c69, c70, c71])); first | done | cbv))⟩
                      · replace hvK75 := cF c71 hvK75
                        refine AOps.cd hT hA { tk := [113] } (by (repeat (cbv; simp only [c65, c66, c67, c68, c69, c70, c71])); first | done | cbv) (lb rfl) ?_
                        cases soI hvK75
                        exact oNi ⟨rfl, (by first | (cbv; done) | ((repeat (cbv; simp only [c65, c66, c67, c68, c69, c70, c71])); first | done | cbv))⟩
                    · replace hvK75 := cF c70 hvK75
                      refine AOps.cd hT hA { tk := [113] } (by (repeat (cbv; simp only [c65, c66, c67, c68, c69, c70])); first | done | cbv) (lb rfl) ?_
                      cases soI hvK75
                      exact oNi ⟨rfl, (by first | (cbv; done) | ((repeat (cbv; simp only [c65, c66, c67, c68, c69, c70])); first | done | cbv))⟩
                  · replace hvK75 := cF c69 hvK75
                    refine AOps.cd hT hA { tk := [113] } (by (repeat (cbv; simp only [c65, c66, c67, c68, c69])); first | done | cbv) (lb rfl) ?_
                    cases soI hvK75
                    exact oNi ⟨rfl, (by first | (cbv; done) | ((repeat (cbv; simp only [c65, c66, c67, c68, c69])); first | done | cbv))⟩
                · replace hvK75 := cF c68 hvK75
                  refine AOps.cd hT hA { tk := [113] } (by (repeat (cbv; simp only [c65, c66, c67, c68])); first | done | cbv) (lb rfl) ?_
                  cases soI hvK75
                  exact oNi ⟨rfl, (by first | (cbv; done) | ((repeat (cbv; simp only [c65, c66, c67, c68])); first | done | cbv))⟩
              · replace hvK75 := cF c67 hvK75
                refine AOps.cd hT hA { tk := [113] } (by (repeat (cbv; simp only [c65, c66, c67])); first | done | cbv) (lb rfl) ?_
                cases soI hvK75
                exact oNi ⟨rfl, (by first | (cbv; done) | ((repeat (cbv; simp only [c65, c66, c67])); first | done | cbv))⟩
            · replace hvK75 := cF c66 hvK75
              refine AOps.cd hT hA { tk := [113] } (by (repeat (cbv; simp only [c65, c66])); first | done | cbv) (lb rfl) ?_
              cases soI hvK75
              exact oNi ⟨rfl, (by first | (cbv; done) | ((repeat (cbv; simp only [c65, c66])); first | done | cbv))⟩
          · replace hvK75 := cF c65 hvK75
            refine AOps.cd hT hA { tk := [113] } (by (repeat (cbv; simp only [c65])); first | done | cbv) (lb rfl) ?_
            cases soI hvK75
            exact oNi ⟨rfl, (by first | (cbv; done) | ((repeat (cbv; simp only [c65])); first | done | cbv))⟩
        · rintro _ rfl
          refine nT ?_
          refine AWp.ret ?_
          cases soI h
          exact ⟨rfl, rfl, rfl, lb rfl, _, rfl⟩
end Go.Am
