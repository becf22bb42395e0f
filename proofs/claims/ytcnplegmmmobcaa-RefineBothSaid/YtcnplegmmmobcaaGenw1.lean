/- Own text: Genw1. -/
import Derived.Test.YtcnplegmmmobcaaGenw0
set_option maxRecDepth 100000
set_option maxHeartbeats 2000000
set_option linter.unusedVariables false
set_option linter.unusedSimpArgs false
namespace Go.Am
open Go Go.Proofs
theorem R15w {A : Ar} (hA : A = Ar.std) {x1 : Int} {x2 : List D} {x3 : Int} {x4 : List D} {x5 : List D} {v60 : Bool} (h : R15 A x1 x2 x3 x4 x5 = some v60) : ACall Try.prog 15 [(.d (.agg [(.int .i64 x1), (.list 3 x2)])), (.d (.agg [(.int .i64 x3), (.list 3 x4)])), (.d (.list 1 x5))] [] (.d (.bool v60)) [] := by
  unfold R15 at h
  refine ACall.enter hT (fn := Try.f15) Try.func15 rfl (by decide) (by simp [Try.f15]) rfl rfl rfl rfl (lb rfl) ?_
  refine AWp.seq ?_
  refine AWp.rg hT hA {} (by cbv) (lb rfl) ?_
  refine nT ?_
  refine AWp.seq ?_
  refine AWp.seq ?_
  obtain ⟨v9, hvK10, h⟩ := bindS h
  refine AWp.cutN [2, 3, 4, 27] [] 0 (lb rfl) (fun τ => τ = { env := [(2, (.d (.list 1 x5))), (3, (.lbox [(.d (.int .i64 x1)), (.d (.list 3 x2))])), (4, (.lbox [(.d (.int .i64 x3)), (.d (.list 3 x4))])), (27, (.d (.bool v9)))], heap := [], n := 118 }) ?_ ?_
  · skip
    refine AWp.region ?_
    obtain ⟨r7, e6, hvK10⟩ := bindS hvK10
    refine AOps.cc hT hA {} (by cbv) (lb rfl) (R42w hA e6) rfl (.inl rfl) rfl rfl rfl (lb rfl) rfl rfl ?_
    rcases tf r7 with c8 | c8
    · replace hvK10 := cT c8 hvK10
      refine AOps.cd hT hA {} (by (repeat (cbv; simp only [c8])); first | done | cbv) (lb rfl) ?_
      cases soI hvK10
      exact oNi ⟨rfl, (by first | (cbv; done) | ((repeat (cbv; simp only [c8])); first | done | cbv))⟩
    · replace hvK10 := cF c8 hvK10
      refine AOps.cd hT hA {} (by (repeat (cbv; simp only [c8])); first | done | cbv) (lb rfl) ?_
      cases soI hvK10
      exact oNi ⟨rfl, (by first | (cbv; done) | ((repeat (cbv; simp only [c8])); first | done | cbv))⟩
  · rintro _ rfl
    refine nT ?_
    rcases tf v9 with c11 | c11
    · replace h := cT c11 h
      refine AWp.cdT rfl (by first | rfl | simp only [c11, Bool.not_true, Bool.not_false, cond_true, cond_false]) ?_
      refine AWp.seq ?_
      refine AWp.region ?_
      obtain ⟨r13, e12, h⟩ := bindS h
      refine AOps.cc hT hA { tk := [28] } (by (repeat (cbv; simp only [c11])); first | done | cbv) (lb rfl) (R17w hA e12) rfl (.inl rfl) rfl rfl rfl (lb rfl) rfl rfl ?_
      refine AOps.cd hT hA { tk := [28] } (by (repeat (cbv; simp only [c11])); first | done | cbv) (lb rfl) ?_
      refine nT ?_
      refine AWp.ret ?_
      refine rT ?_
      cases soI h
      exact ⟨rfl, rfl, rfl, lb rfl, _, rfl⟩
    · replace h := cF c11 h
      refine AWp.cdF rfl (by first | rfl | simp only [c11, Bool.not_true, Bool.not_false, cond_true, cond_false]) ?_
      refine AWp.skip ?_
      refine nT ?_
      refine AWp.seq ?_
      refine AWp.region ?_
      obtain ⟨⟨r15, r16, r17⟩, e14, h⟩ := bindS h
      refine AOps.cc hT hA { tk := [33] } (by (repeat (cbv; simp only [c11])); first | done | cbv) (lb rfl) (R56w hA e14) rfl (.inl rfl) rfl rfl rfl (lb rfl) rfl rfl ?_
      refine AOps.cd hT hA { tk := [33] } (by (repeat (cbv; simp only [c11])); first | done | cbv) (lb rfl) ?_
      refine nT ?_
      refine AWp.seq ?_
      refine AWp.seq ?_
      refine AWp.rg hT hA {} (by (repeat (cbv; simp only [c11])); first | done | cbv) (lb rfl) ?_
      refine nT ?_
      rcases tf (A.zeq r17 0) with c18 | c18
      · replace h := cT c18 h
        refine AWp.cdF rfl (by first | rfl | simp only [c11, c18, Bool.not_true, Bool.not_false, cond_true, cond_false]) ?_
        refine AWp.skip ?_
        refine nT ?_
        refine AWp.seq ?_
        refine AWp.seq ?_
        obtain ⟨v27, hvK28, h⟩ := bindS h
        refine AWp.cutN [2, 3, 4, 7, 54] [] 0 (lb rfl) (fun τ => τ = { env := [(2, (.d (.list 1 x5))), (3, (.lbox [(.d (.int .i64 x1)), (.d (.list 3 x2))])), (4, (.lbox [(.d (.int .i64 x3)), (.d (.list 3 x4))])), (7, (.lbox [(.d (.int .i64 r15)), (.d (.list 3 r16))])), (54, (.d (.bool v27)))], heap := [], n := 118 }) ?_ ?_
        · skip
          refine AWp.region ?_
          obtain ⟨r25, e24, hvK28⟩ := bindS hvK28
          refine AOps.cc hT hA {} (by (repeat (cbv; simp only [c11, c18])); first | done | cbv) (lb rfl) (R34w hA e24) rfl (.inl rfl) rfl rfl rfl (lb rfl) rfl rfl ?_
          rcases tf r25 with c26 | c26
          · replace hvK28 := cT c26 hvK28
            refine AOps.cd hT hA {} (by (repeat (cbv; simp only [c11, c18, c26])); first | done | cbv) (lb rfl) ?_
            cases soI hvK28
            exact oNi ⟨rfl, (by first | (cbv; done) | ((repeat (cbv; simp only [c11, c18, c26])); first | done | cbv))⟩
          · replace hvK28 := cF c26 hvK28
            refine AOps.cd hT hA {} (by (repeat (cbv; simp only [c11, c18, c26])); first | done | cbv) (lb rfl) ?_
            cases soI hvK28
            exact oNi ⟨rfl, (by first | (cbv; done) | ((repeat (cbv; simp only [c11, c18, c26])); first | done | cbv))⟩
        · rintro _ rfl
          refine nT ?_
          rcases tf v27 with c29 | c29
          · replace h := cT c29 h
            refine AWp.cdT rfl (by first | rfl | simp only [c29, Bool.not_true, Bool.not_false, cond_true, cond_false]) ?_
            refine AWp.seq ?_
            refine AWp.rg hT hA {} (by (repeat (cbv; simp only [c29])); first | done | cbv) (lb rfl) ?_
            refine nT ?_
            refine AWp.ret ?_
            refine rT ?_
            cases soI h
            exact ⟨rfl, rfl, rfl, lb rfl, _, rfl⟩
          · replace h := cF c29 h
            refine AWp.cdF rfl (by first | rfl | simp only [c29, Bool.not_true, Bool.not_false, cond_true, cond_false]) ?_
            refine AWp.skip ?_
            refine nT ?_
            refine AWp.seq ?_
            refine AWp.region ?_
            obtain ⟨⟨r31, r32⟩, e30, h⟩ := bindS h
            refine AOps.cc hT hA {} (by (repeat (cbv; simp only [c29])); first | done | cbv) (lb rfl) (R44w hA e30) rfl (.inl rfl) rfl rfl rfl (lb rfl) rfl rfl ?_
            refine AOps.cd hT hA {} (by (repeat (cbv; simp only [c29])); first | done | cbv) (lb rfl) ?_
            refine nT ?_
            refine AWp.seq ?_
            refine AWp.region ?_
            obtain ⟨⟨r34, r35⟩, e33, h⟩ := bindS h
            refine AOps.cc hT hA {} (by (repeat (cbv; simp only [c29])); first | done | cbv) (lb rfl) (R44w hA e33) rfl (.inl rfl) rfl rfl rfl (lb rfl) rfl rfl ?_
            refine AOps.cd hT hA {} (by (repeat (cbv; simp only [c29])); first | done | cbv) (lb rfl) ?_
            refine nT ?_
            refine AWp.seq ?_
            refine AWp.region ?_
            obtain ⟨⟨r37, r38⟩, e36, h⟩ := bindS h
            refine AOps.cc hT hA {} (by (repeat (cbv; simp only [c29])); first | done | cbv) (lb rfl) (R18w hA e36) rfl (.inl rfl) rfl rfl rfl (lb rfl) rfl rfl ?_
            refine AOps.cd hT hA {} (by (repeat (cbv; simp only [c29])); first | done | cbv) (lb rfl) ?_
            refine nT ?_
            refine AWp.seq ?_
            refine AWp.region ?_
            obtain ⟨⟨r40, r41⟩, e39, h⟩ := bindS h
            refine AOps.cc hT hA {} (by (repeat (cbv; simp only [c29])); first | done | cbv) (lb rfl) (R18w hA e39) rfl (.inl rfl) rfl rfl rfl (lb rfl) rfl rfl ?_
            refine AOps.cd hT hA {} (by (repeat (cbv; simp only [c29])); first | done | cbv) (lb rfl) ?_
            refine nT ?_
            refine AWp.seq ?_
            refine AWp.region ?_
            obtain ⟨⟨r43, r44⟩, e42, h⟩ := bindS h
            refine AOps.cc hT hA {} (by (repeat (cbv; simp only [c29])); first | done | cbv) (lb rfl) (R18w hA e42) rfl (.inl rfl) rfl rfl rfl (lb rfl) rfl rfl ?_
            refine AOps.cd hT hA {} (by (repeat (cbv; simp only [c29])); first | done | cbv) (lb rfl) ?_
            refine nT ?_
            refine AWp.seq ?_
            obtain ⟨v58, hvK59, h⟩ := bindS h
            refine AWp.cutN [6] [] 0 (lb rfl) (fun τ => τ = { env := [(6, (.d (.bool v58)))], heap := [], n := 118 }) ?_ ?_
            · skip
              refine AWp.region ?_
              rcases tf (A.zeq r32 0) with c45 | c45
              · replace hvK59 := cT c45 hvK59
                rcases tf (A.zeq r35 0) with c46 | c46
                · replace hvK59 := cT c46 hvK59
                  rcases tf r31 with c47 | c47
                  · replace hvK59 := cT c47 hvK59
                    rcases tf r34 with c48 | c48
                    · replace hvK59 := cT c48 hvK59
                      rcases tf (A.zeq r38 r41) with c49 | c49
                      · replace hvK59 := cT c49 hvK59
                        rcases tf (A.zeq r41 r44) with c50 | c50
                        · replace hvK59 := cT c50 hvK59
                          rcases tf r40 with c51 | c51
                          · replace hvK59 := cT c51 hvK59
                            rcases tf (A.beq r37 r43) with c52 | c52
                            · replace hvK59 := cT c52 hvK59
                              obtain ⟨r54, e53, hvK59⟩ := bindS hvK59
                              refine AOps.cc hT hA { tk := [117] } (by (repeat (cbv; simp only [c29, c45, c46, c47, c48, c49, c50, c51, c52])); first | done | cbv) (lb rfl) (R17w hA e53) rfl (.inl rfl) rfl rfl rfl (lb rfl) rfl rfl ?_
                              refine AOps.cd hT hA { tk := [117] } (by (repeat (cbv; simp only [c29, c45, c46, c47, c48, c49, c50, c51, c52])); first | done | cbv) (lb rfl) ?_
                              cases soI hvK59
                              exact oNi ⟨rfl, (by first | (cbv; done) | ((repeat (cbv; simp only [c29, c45, c46, c47, c48, c49, c50, c51, c52])); first | done | cbv))⟩
                            · replace hvK59 := cF c52 hvK59
                              refine AOps.cd hT hA { tk := [117] } (by (repeat (cbv; simp only [c29, c45, c46, c47, c48, c49, c50, c51, c52])); first | done | cbv) (lb rfl) ?_
                              cases soI hvK59
                              exact oNi ⟨rfl, (by first | (cbv; done) | ((repeat (cbv; simp only [c29, c45, c46, c47, c48, c49, c50, c51, c52])); first | done | cbv))⟩
                          · replace hvK59 := cF c51 hvK59
                            rcases tf (A.beq r37 false) with c55 | c55
                            · replace hvK59 := cT c55 hvK59
                              obtain ⟨r57, e56, hvK59⟩ := bindS hvK59
                              refine AOps.cc hT hA { tk := [117] } (by (repeat (cbv; simp only [c29, c45, c46, c47, c48, c49, c50, c51, c55])); first | done | cbv) (lb rfl) (R17w hA e56) rfl (.inl rfl) rfl rfl rfl (lb rfl) rfl rfl ?_
                              refine AOps.cd hT hA { tk := [117] } (by (repeat (cbv; simp only [c29, c45, c46, c47, c48, c49, c50, c51, c55])); first | done | cbv) (lb rfl) ?_
                              cases soI hvK59
                              exact oNi ⟨rfl, (by first | (cbv; done) | ((repeat (cbv; simp only [c29, c45, c46, c47, c48, c49, c50, c51, c55])); first | done | cbv))⟩
                            · replace hvK59 := cF c55 hvK59
                              refine AOps.cd hT hA { tk := [117] } (by (repeat (cbv; simp only [c29, c45, c46, c47, c48, c49, c50, c51, c55])); first | done | cbv) (lb rfl) ?_
                              cases soI hvK59
                              exact oNi ⟨rfl, (by first | (cbv; done) | ((repeat (cbv; simp only [c29, c45, c46, c47, c48, c49, c50, c51, c55])); first | done | cbv))⟩
                        · replace hvK59 := cF c50 hvK59
                          refine AOps.cd hT hA { tk := [117] } (by (repeat (cbv; simp only [c29, c45, c46, c47, c48, c49, c50])); first | done | cbv) (lb rfl) ?_
                          cases soI hvK59
                          exact oNi ⟨rfl, (by first | (cbv; done) | ((repeat (cbv; simp only [c29, c45, c46, c47, c48, c49, c50])); first | done | cbv))⟩
                      · replace hvK59 := cF c49 hvK59
                        refine AOps.cd hT hA { tk := [117] } (by (repeat (cbv; simp only [c29, c45, c46, c47, c48, c49])); first | done | cbv) (lb rfl) ?_
                        cases soI hvK59
                        exact oNi ⟨rfl, (by first | (cbv; done) | ((repeat (cbv; simp only [c29, c45, c46, c47, c48, c49])); first | done | cbv))⟩
                    · replace hvK59 := cF c48 hvK59
                      refine AOps.cd hT hA { tk := [117] } (by (repeat (cbv; simp only [c29, c45, c46, c47, c48])); first | done | cbv) (lb rfl) ?_
                      cases soI hvK59
                      exact oNi ⟨rfl, (by first | (cbv; done) | ((repeat (cbv; simp only [c29, c45, c46, c47, c48])); first | done | cbv))⟩
                  · replace hvK59 := cF c47 hvK59
                    refine AOps.cd hT hA { tk := [117] } (by (repeat (cbv; simp only [c29, c45, c46, c47])); first | done | cbv) (lb rfl) ?_
                    cases soI hvK59
                    exact oNi ⟨rfl, (by first | (cbv; done) | ((repeat (cbv; simp only [c29, c45, c46, c47])); first | done | cbv))⟩
                · replace hvK59 := cF c46 hvK59
                  refine AOps.cd hT hA { tk := [117] } (by (repeat (cbv; simp only [c29, c45, c46])); first | done | cbv) (lb rfl) ?_
                  cases soI hvK59
                  exact oNi ⟨rfl, (by first | (cbv; done) | ((repeat (cbv; simp only [c29, c45, c46])); first | done | cbv))⟩
              · replace hvK59 := cF c45 hvK59
                refine AOps.cd hT hA { tk := [117] } (by (repeat (cbv; simp only [c29, c45])); first | done | cbv) (lb rfl) ?_
                cases soI hvK59
                exact oNi ⟨rfl, (by first | (cbv; done) | ((repeat (cbv; simp only [c29, c45])); first | done | cbv))⟩
            · rintro _ rfl
              refine nT ?_
              refine AWp.ret ?_
              cases soI h
              exact ⟨rfl, rfl, rfl, lb rfl, _, rfl⟩
      · replace h := cF c18 h
        refine AWp.cdT rfl (by first | rfl | simp only [c11, c18, Bool.not_true, Bool.not_false, cond_true, cond_false]) ?_
        refine AWp.seq ?_
        obtain ⟨v22, hvK23, h⟩ := bindS h
        refine AWp.cutN [6] [] 0 (lb rfl) (fun τ => τ = { env := [(6, (.d (.bool v22)))], heap := [], n := 118 }) ?_ ?_
        · skip
          refine AWp.region ?_
          rcases tf (A.zeq r17 4) with c19 | c19
          · replace hvK23 := cT c19 hvK23
            obtain ⟨r21, e20, hvK23⟩ := bindS hvK23
            refine AOps.cc hT hA { tk := [41] } (by (repeat (cbv; simp only [c11, c18, c19])); first | done | cbv) (lb rfl) (R17w hA e20) rfl (.inl rfl) rfl rfl rfl (lb rfl) rfl rfl ?_
            refine AOps.cd hT hA { tk := [41] } (by (repeat (cbv; simp only [c11, c18, c19])); first | done | cbv) (lb rfl) ?_
            cases soI hvK23
            exact oNi ⟨rfl, (by first | (cbv; done) | ((repeat (cbv; simp only [c11, c18, c19])); first | done | cbv))⟩
          · replace hvK23 := cF c19 hvK23
            refine AOps.cd hT hA { tk := [41] } (by (repeat (cbv; simp only [c11, c18, c19])); first | done | cbv) (lb rfl) ?_
            cases soI hvK23
            exact oNi ⟨rfl, (by first | (cbv; done) | ((repeat (cbv; simp only [c11, c18, c19])); first | done | cbv))⟩
        · rintro _ rfl
          refine nT ?_
          refine AWp.ret ?_
          refine rT ?_
          cases soI h
          exact ⟨rfl, rfl, rfl, lb rfl, _, rfl⟩
end Go.Am
