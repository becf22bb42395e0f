/- Own text: Genw1. -/
import Derived.Test.YtcnplegmmmobcaaGenw0
set_option maxRecDepth 100000
set_option maxHeartbeats 2000000
set_option linter.unusedVariables false
set_option linter.unusedSimpArgs false
namespace Go.Am
open Go Go.Proofs
theorem R53w {A : Ar} (hA : A = Ar.std) {x1 : List D} {x2 : List D} {v57 : Bool} (h : R53 A x1 x2 = some v57) : ACall Try.prog 53 [(.d (.list 2 x1)), (.d (.list 2 x2))] [] (.d (.bool v57)) [] := by
  unfold R53 at h
  refine ACall.enter hT (fn := Try.f53) Try.func53 rfl (by decide) (by simp [Try.f53]) rfl rfl rfl rfl (lb rfl) ?_
  refine AWp.seq ?_
  refine AWp.rg hT hA {} (by cbv) (lb rfl) ?_
  refine nT ?_
  refine AWp.seq ?_
  refine AWp.seq ?_
  refine AWp.rg hT hA {} (by cbv) (lb rfl) ?_
  refine nT ?_
  refine AWp.block ?_
  obtain ⟨xK56, hxK56, K56, hK56, hkK56⟩ := bindK h
  refine AWp.cutX 0 [] [] 0 (lb rfl) (fun τ => K56 (.inl ()) = some v57 ∧ τ = { env := [], heap := [], n := 32 }) ?_ ?_
  · skip
    refine AWp.iter hxK56 [0, 10, 11, 12] [] 0 (lb rfl) (fun v29 => { env := [(0, (.d (.list 2 x1))), (10, (.d (.list 2 x2))), (11, (.d (.int .i64 (A.len x2)))), (12, (.d (.int .i64 v29)))], heap := [], n := 32 }) ⟨rfl, (by cbv)⟩ ?_
    rintro v29 eK56 hsK56
    dsimp only [R53L1] at hsK56
    refine AWp.seq ?_
    refine AWp.rg hT hA {} (by cbv) (lb rfl) ?_
    refine nT ?_
    refine AWp.seq ?_
    rcases tf (A.zlt v29 (A.len x2)) with c30 | c30
    · replace hsK56 := cT c30 hsK56
      refine AWp.cdT rfl (by first | rfl | simp only [c30, Bool.not_true, Bool.not_false, cond_true, cond_false]) ?_
      refine AWp.skip ?_
      refine nT ?_
      refine AWp.seq ?_
      refine AWp.block ?_
      refine AWp.seq ?_
      obtain ⟨⟨a31, a32⟩, e33, hsK56⟩ := bindS hsK56
      obtain ⟨f34, f35⟩ := gtI e33
      refine AWp.rg hT hA { tk := [15] } (by (repeat (cbv; simp only [c30, f34, f35])); first | done | cbv) (lb rfl) ?_
      refine nT ?_
      refine AWp.seq ?_
      refine AWp.rg hT hA {} (by (repeat (cbv; simp only [c30])); first | done | cbv) (lb rfl) ?_
      refine nT ?_
      refine AWp.seq ?_
      refine AWp.seq ?_
      refine AWp.rg hT hA {} (by (repeat (cbv; simp only [c30])); first | done | cbv) (lb rfl) ?_
      refine nT ?_
      refine AWp.block ?_
      obtain ⟨xK54, hxK54, K54, hK54, hkK54⟩ := bindK hsK56
      refine AWp.cutX 2 [0, 7, 10, 11, 12] [] 0 (lb rfl) (fun τ => ∃ v53, K54 v53 = some eK56 ∧ τ = { env := [(0, (.d (.list 2 x1))), (7, (.d (.bool v53))), (10, (.d (.list 2 x2))), (11, (.d (.int .i64 (A.len x2)))), (12, (.d (.int .i64 v29)))], heap := [], n := 32 }) ?_ ?_
      · skip
        refine AWp.iter hxK54 [0, 6, 7, 10, 11, 12, 16, 17, 18] [] 0 (lb rfl) (fun (v42, v43) => { env := [(0, (.d (.list 2 x1))), (6, (.lbox [(.d (.int .i64 a31)), (.d (.int .i64 a32))])), (7, (.d (.bool v42))), (10, (.d (.list 2 x2))), (11, (.d (.int .i64 (A.len x2)))), (12, (.d (.int .i64 v29))), (16, (.d (.list 2 x1))), (17, (.d (.int .i64 (A.len x1)))), (18, (.d (.int .i64 v43)))], heap := [], n := 32 }) ⟨rfl, (by first | (cbv; done) | ((repeat (cbv; simp only [c30])); first | done | cbv))⟩ ?_
        rintro ⟨v42, v43⟩ eK54 hsK54
        dsimp only [R53L0] at hsK54
        refine AWp.seq ?_
        refine AWp.rg hT hA {} (by cbv) (lb rfl) ?_
        refine nT ?_
        refine AWp.seq ?_
        rcases tf (A.zlt v43 (A.len x1)) with c44 | c44
        · replace hsK54 := cT c44 hsK54
          refine AWp.cdT rfl (by first | rfl | simp only [c44, Bool.not_true, Bool.not_false, cond_true, cond_false]) ?_
          refine AWp.skip ?_
          refine nT ?_
          refine AWp.seq ?_
          refine AWp.block ?_
          refine AWp.seq ?_
          obtain ⟨⟨a45, a46⟩, e47, hsK54⟩ := bindS hsK54
          obtain ⟨f48, f49⟩ := gtI e47
          refine AWp.rg hT hA { tk := [21] } (by (repeat (cbv; simp only [c44, f48, f49])); first | done | cbv) (lb rfl) ?_
          refine nT ?_
          obtain ⟨v51, hvK52, hsK54⟩ := bindS hsK54
          refine AWp.cutN [0, 6, 7, 10, 11, 12, 16, 17, 18] [] 0 (lb rfl) (fun τ => τ = { env := [(0, (.d (.list 2 x1))), (6, (.lbox [(.d (.int .i64 a31)), (.d (.int .i64 a32))])), (7, (.d (.bool v51))), (10, (.d (.list 2 x2))), (11, (.d (.int .i64 (A.len x2)))), (12, (.d (.int .i64 v29))), (16, (.d (.list 2 x1))), (17, (.d (.int .i64 (A.len x1)))), (18, (.d (.int .i64 v43)))], heap := [], n := 32 }) ?_ ?_
          · skip
            rcases tf v42 with c50 | c50
            · replace hvK52 := cT c50 hvK52
              refine AWp.rg hT hA {} (by (repeat (cbv; simp only [c44, c50])); first | done | cbv) (lb rfl) ?_
              cases soI hvK52
              exact oNi ⟨rfl, (by first | (cbv; done) | ((repeat (cbv; simp only [c44, c50])); first | done | cbv))⟩
            · replace hvK52 := cF c50 hvK52
              refine AWp.rg hT hA {} (by (repeat (cbv; simp only [c44, c50])); first | done | cbv) (lb rfl) ?_
              cases soI hvK52
              exact oNi ⟨rfl, (by first | (cbv; done) | ((repeat (cbv; simp only [c44, c50])); first | done | cbv))⟩
          · rintro _ rfl
            refine nB ?_
            refine nT ?_
            refine AWp.rg hT hA {} (by cbv) (lb rfl) ?_
            exact nT ⟨_, (soI hsK54).symm, rfl, (by cbv)⟩
        · replace hsK54 := cF c44 hsK54
          refine AWp.cdF rfl (by first | rfl | simp only [c44, Bool.not_true, Bool.not_false, cond_true, cond_false]) ?_
          refine AWp.exit ?_
          refine xT ?_
          refine xT ?_
          refine exL hsK54 fun hx => ?_
          subst hx
          exact oxI ⟨rfl, _, hkK54, (by first | (cbv; done) | ((repeat (cbv; simp only [c44])); first | done | cbv))⟩
      · rintro _ ⟨v53, hkK54, rfl⟩
        have hsK56 := (hK54 _ hkK54)
        refine xB ?_
        refine nT ?_
        refine AWp.seq ?_
        refine AWp.rg hT hA {} (by cbv) (lb rfl) ?_
        refine nT ?_
        rcases tf v53 with c55 | c55
        · replace hsK56 := cT c55 hsK56
          refine AWp.cdF rfl (by first | rfl | simp only [c55, Bool.not_true, Bool.not_false, cond_true, cond_false]) ?_
          refine AWp.skip ?_
          refine nB ?_
          refine nT ?_
          refine AWp.rg hT hA {} (by (repeat (cbv; simp only [c55])); first | done | cbv) (lb rfl) ?_
          exact nT ⟨_, (soI hsK56).symm, rfl, (by first | (cbv; done) | ((repeat (cbv; simp only [c55])); first | done | cbv))⟩
        · replace hsK56 := cF c55 hsK56
          refine AWp.cdT rfl (by first | rfl | simp only [c55, Bool.not_true, Bool.not_false, cond_true, cond_false]) ?_
          refine AWp.seq ?_
          refine AWp.rg hT hA {} (by (repeat (cbv; simp only [c55])); first | done | cbv) (lb rfl) ?_
          refine nT ?_
          refine AWp.ret ?_
          refine rB ?_
          refine rT ?_
          refine rT ?_
          refine exL hsK56 fun hx => ?_
          subst hx
          refine oxR ?_
          replace hkK56 := (eR (hK56 _ hkK56))
          refine rB ?_
          refine rT ?_
          cases soI hkK56
          exact ⟨rfl, rfl, rfl, lb rfl, _, rfl⟩
    · replace hsK56 := cF c30 hsK56
      refine AWp.cdF rfl (by first | rfl | simp only [c30, Bool.not_true, Bool.not_false, cond_true, cond_false]) ?_
      refine AWp.exit ?_
      refine xT ?_
      refine xT ?_
      refine exL hsK56 fun hx => ?_
      subst hx
      exact oxI ⟨rfl, hkK56, (by first | (cbv; done) | ((repeat (cbv; simp only [c30])); first | done | cbv))⟩
  · rintro _ ⟨hkK56, rfl⟩
    have h := (eL (hK56 _ hkK56))
    refine xB ?_
    refine nT ?_
    refine AWp.seq ?_
    refine AWp.rg hT hA {} (by cbv) (lb rfl) ?_
    refine nT ?_
    refine AWp.ret ?_
    cases soI h
    exact ⟨rfl, rfl, rfl, lb rfl, _, rfl⟩

theorem R13w {A : Ar} (hA : A = Ar.std) {x1 : Int} {x2 : List D} {x3 : Int} {x4 : List D} {x5 : List D} {v82 : Bool} (h : R13 A x1 x2 x3 x4 x5 = some v82) : ACall Try.prog 13 [(.d (.agg [(.int .i64 x1), (.list 3 x2)])), (.d (.agg [(.int .i64 x3), (.list 3 x4)])), (.d (.list 2 x5))] [] (.d (.bool v82)) [] := by
  unfold R13 at h
  refine ACall.enter hT (fn := Try.f13) Try.func13 rfl (by decide) (by simp [Try.f13]) rfl rfl rfl rfl (lb rfl) ?_
  refine AWp.seq ?_
  refine AWp.rg hT hA {} (by cbv) (lb rfl) ?_
  refine nT ?_
  refine AWp.seq ?_
  refine AWp.seq ?_
  obtain ⟨v9, hvK10, h⟩ := bindS h
  refine AWp.cutN [2, 3, 4, 26] [] 0 (lb rfl) (fun τ => τ = { env := [(2, (.d (.list 2 x5))), (3, (.lbox [(.d (.int .i64 x1)), (.d (.list 3 x2))])), (4, (.lbox [(.d (.int .i64 x3)), (.d (.list 3 x4))])), (26, (.d (.bool v9)))], heap := [], n := 165 }) ?_ ?_
  · skip
    refine AWp.region ?_
    obtain ⟨r7, e6, hvK10⟩ := bindS hvK10
    refine AOps.cc hT hA {} (by cbv) (lb rfl) (R42w hA e6) rfl (.inl rfl) rfl rfl rfl (lb rfl) rfl rfl ?_
    rcases tf r7 with c8 | c8
    · replace hvK10 := cT c8 hvK10
      refine AOps.cd hT hA {} (by (repeat (cbv; simp only [c8])); first | done | cbv) (lb rfl) ?_
      cases soI hvK10
      exact oNi ⟨rfl, (by first | (cbv; done) | ((repeat (cbv; simp only [c8])); first | done | cbv))⟩
    · replace hvK10 := cF c8 hvK10
      refine AOps.cd hT hA {} (by (repeat (cbv; simp only [c8])); first | done | cbv) (lb rfl) ?_
      cases soI hvK10
      exact oNi ⟨rfl, (by first | (cbv; done) | ((repeat (cbv; simp only [c8])); first | done | cbv))⟩
  · rintro _ rfl
    refine nT ?_
    rcases tf v9 with c11 | c11
    · replace h := cT c11 h
      refine AWp.cdT rfl (by first | rfl | simp only [c11, Bool.not_true, Bool.not_false, cond_true, cond_false]) ?_
      refine AWp.seq ?_
      refine AWp.region ?_
      obtain ⟨r13, e12, h⟩ := bindS h
      refine AOps.cc hT hA { tk := [27] } (by (repeat (cbv; simp only [c11])); first | done | cbv) (lb rfl) (R17w hA e12) rfl (.inl rfl) rfl rfl rfl (lb rfl) rfl rfl ?_
      refine AOps.cd hT hA { tk := [27] } (by (repeat (cbv; simp only [c11])); first | done | cbv) (lb rfl) ?_
      refine nT ?_
      refine AWp.ret ?_
      refine rT ?_
      cases soI h
      exact ⟨rfl, rfl, rfl, lb rfl, _, rfl⟩
    · replace h := cF c11 h
      refine AWp.cdF rfl (by first | rfl | simp only [c11, Bool.not_true, Bool.not_false, cond_true, cond_false]) ?_
      refine AWp.skip ?_
      refine nT ?_
      refine AWp.seq ?_
      refine AWp.region ?_
      obtain ⟨⟨r15, r16⟩, e14, h⟩ := bindS h
      refine AOps.cc hT hA {} (by (repeat (cbv; simp only [c11])); first | done | cbv) (lb rfl) (R47w hA e14) rfl (.inl rfl) rfl rfl rfl (lb rfl) rfl rfl ?_
      refine AOps.cd hT hA {} (by (repeat (cbv; simp only [c11])); first | done | cbv) (lb rfl) ?_
      refine nT ?_
      refine AWp.seq ?_
      refine AWp.region ?_
      obtain ⟨⟨r18, r19⟩, e17, h⟩ := bindS h
      refine AOps.cc hT hA {} (by (repeat (cbv; simp only [c11])); first | done | cbv) (lb rfl) (R49w hA e17) rfl (.inl rfl) rfl rfl rfl (lb rfl) rfl rfl ?_
      refine AOps.cd hT hA {} (by (repeat (cbv; simp only [c11])); first | done | cbv) (lb rfl) ?_
      refine nT ?_
      refine AWp.seq ?_
      refine AWp.region ?_
      obtain ⟨⟨r21, r22⟩, e20, h⟩ := bindS h
      refine AOps.cc hT hA {} (by (repeat (cbv; simp only [c11])); first | done | cbv) (lb rfl) (R44w hA e20) rfl (.inl rfl) rfl rfl rfl (lb rfl) rfl rfl ?_
      refine AOps.cd hT hA {} (by (repeat (cbv; simp only [c11])); first | done | cbv) (lb rfl) ?_
      refine nT ?_
      refine AWp.seq ?_
      refine AWp.region ?_
      obtain ⟨⟨r24, r25⟩, e23, h⟩ := bindS h
      refine AOps.cc hT hA {} (by (repeat (cbv; simp only [c11])); first | done | cbv) (lb rfl) (R46w hA e23) rfl (.inl rfl) rfl rfl rfl (lb rfl) rfl rfl ?_
      refine AOps.cd hT hA {} (by (repeat (cbv; simp only [c11])); first | done | cbv) (lb rfl) ?_
      refine nT ?_
      refine AWp.seq ?_
      refine AWp.region ?_
      obtain ⟨⟨r27, r28⟩, e26, h⟩ := bindS h
      refine AOps.cc hT hA {} (by (repeat (cbv; simp only [c11])); first | done | cbv) (lb rfl) (R44w hA e26) rfl (.inl rfl) rfl rfl rfl (lb rfl) rfl rfl ?_
      refine AOps.cd hT hA {} (by (repeat (cbv; simp only [c11])); first | done | cbv) (lb rfl) ?_
      refine nT ?_
      refine AWp.seq ?_
      refine AWp.seq ?_
      obtain ⟨⟨v42, v43⟩, hvK44, h⟩ := bindS h
      refine AWp.cutN [2, 3, 4, 7, 11, 13, 102] [] 0 (lb rfl) (fun τ => τ = { env := [(2, (.d (.list 2 x5))), (3, (.lbox [(.d (.int .i64 x1)), (.d (.list 3 x2))])), (4, (.lbox [(.d (.int .i64 x3)), (.d (.list 3 x4))])), (7, (.d (.list 2 r15))), (11, (.d (.bool v42))), (13, (.d (.list 2 r24))), (102, (.d (.bool v43)))], heap := [], n := 165 }) ?_ ?_
      · skip
        refine AWp.region ?_
        rcases tf (A.zeq r16 0) with c29 | c29
        · replace hvK44 := cT c29 hvK44
          rcases tf (A.zeq r19 0) with c30 | c30
          · replace hvK44 := cT c30 hvK44
            rcases tf (A.zeq r22 0) with c31 | c31
            · replace hvK44 := cT c31 hvK44
              rcases tf (A.zeq r28 0) with c32 | c32
              · replace hvK44 := cT c32 hvK44
                rcases tf r18 with c33 | c33
                · replace hvK44 := cT c33 hvK44
                  rcases tf r27 with c34 | c34
                  · replace hvK44 := cT c34 hvK44
                    obtain ⟨r36, e35, hvK44⟩ := bindS hvK44
                    refine AOps.cc hT hA {} (by (repeat (cbv; simp only [c11, c29, c30, c31, c32, c33, c34])); first | done | cbv) (lb rfl) (R53w hA e35) rfl (.inl rfl) rfl rfl rfl (lb rfl) rfl rfl ?_
                    rcases tf (A.beq r21 r36) with c37 | c37
                    · replace hvK44 := cT c37 hvK44
                      rcases tf (A.beq r21 (A.zeq r25 0)) with c38 | c38
                      · replace hvK44 := cT c38 hvK44
                        rcases tf r21 with c39 | c39
                        · replace hvK44 := cT c39 hvK44
                          have c40 := c37
                          rw [c39] at c40
                          have c41 := c38
                          rw [c39] at c41
                          refine AOps.cd hT hA {} (by (repeat (cbv; simp only [c11, c29, c30, c31, c32, c33, c34, c37, c38, c39, c40, c41])); first | done | cbv) (lb rfl) ?_
                          cases soI hvK44
                          exact oNi ⟨rfl, (by first | (cbv; done) | ((repeat (cbv; simp only [c11, c29, c30, c31, c32, c33, c34, c37, c38, c39, c40, c41])); first | done | cbv))⟩
                        · replace hvK44 := cF c39 hvK44
                          have c40 := c37
                          rw [c39] at c40
                          have c41 := c38
                          rw [c39] at c41
                          refine AOps.cd hT hA {} (by (repeat (cbv; simp only [c11, c29, c30, c31, c32, c33, c34, c37, c38, c39, c40, c41])); first | done | cbv) (lb rfl) ?_
                          cases soI hvK44
                          exact oNi ⟨rfl, (by first | (cbv; done) | ((repeat (cbv; simp only [c11, c29, c30, c31, c32, c33, c34, c37, c38, c39, c40, c41])); first | done | cbv))⟩
                      · replace hvK44 := cF c38 hvK44
                        refine AOps.cd hT hA {} (by (repeat (cbv; simp only [c11, c29, c30, c31, c32, c33, c34, c37, c38])); first | done | cbv) (lb rfl) ?_
                        cases soI hvK44
                        exact oNi ⟨rfl, (by first | (cbv; done) | ((repeat (cbv; simp only [c11, c29, c30, c31, c32, c33, c34, c37, c38])); first | done | cbv))⟩
                    · replace hvK44 := cF c37 hvK44
                      refine AOps.cd hT hA {} (by (repeat (cbv; simp only [c11, c29, c30, c31, c32, c33, c34, c37])); first | done | cbv) (lb rfl) ?_
                      cases soI hvK44
                      exact oNi ⟨rfl, (by first | (cbv; done) | ((repeat (cbv; simp only [c11, c29, c30, c31, c32, c33, c34, c37])); first | done | cbv))⟩
                  · replace hvK44 := cF c34 hvK44
                    refine AOps.cd hT hA {} (by (repeat (cbv; simp only [c11, c29, c30, c31, c32, c33, c34])); first | done | cbv) (lb rfl) ?_
                    cases soI hvK44
                    exact oNi ⟨rfl, (by first | (cbv; done) | ((repeat (cbv; simp only [c11, c29, c30, c31, c32, c33, c34])); first | done | cbv))⟩
                · replace hvK44 := cF c33 hvK44
                  refine AOps.cd hT hA {} (by (repeat (cbv; simp only [c11, c29, c30, c31, c32, c33])); first | done | cbv) (lb rfl) ?_
                  cases soI hvK44
                  exact oNi ⟨rfl, (by first | (cbv; done) | ((repeat (cbv; simp only [c11, c29, c30, c31, c32, c33])); first | done | cbv))⟩
              · replace hvK44 := cF c32 hvK44
                refine AOps.cd hT hA {} (by (repeat (cbv; simp only [c11, c29, c30, c31, c32])); first | done | cbv) (lb rfl) ?_
                cases soI hvK44
                exact oNi ⟨rfl, (by first | (cbv; done) | ((repeat (cbv; simp only [c11, c29, c30, c31, c32])); first | done | cbv))⟩
            · replace hvK44 := cF c31 hvK44
              refine AOps.cd hT hA {} (by (repeat (cbv; simp only [c11, c29, c30, c31])); first | done | cbv) (lb rfl) ?_
              cases soI hvK44
              exact oNi ⟨rfl, (by first | (cbv; done) | ((repeat (cbv; simp only [c11, c29, c30, c31])); first | done | cbv))⟩
          · replace hvK44 := cF c30 hvK44
            refine AOps.cd hT hA {} (by (repeat (cbv; simp only [c11, c29, c30])); first | done | cbv) (lb rfl) ?_
            cases soI hvK44
            exact oNi ⟨rfl, (by first | (cbv; done) | ((repeat (cbv; simp only [c11, c29, c30])); first | done | cbv))⟩
        · replace hvK44 := cF c29 hvK44
          refine AOps.cd hT hA {} (by (repeat (cbv; simp only [c11, c29])); first | done | cbv) (lb rfl) ?_
          cases soI hvK44
          exact oNi ⟨rfl, (by first | (cbv; done) | ((repeat (cbv; simp only [c11, c29])); first | done | cbv))⟩
      · rintro _ rfl
        refine nT ?_
        rcases tf v43 with c45 | c45
        · replace h := cT c45 h
          refine AWp.cdT rfl (by first | rfl | simp only [c45, Bool.not_true, Bool.not_false, cond_true, cond_false]) ?_
          refine AWp.seq ?_
          refine AWp.rg hT hA {} (by (repeat (cbv; simp only [c45])); first | done | cbv) (lb rfl) ?_
          refine nT ?_
          refine AWp.ret ?_
          refine rT ?_
          cases soI h
          exact ⟨rfl, rfl, rfl, lb rfl, _, rfl⟩
        · replace h := cF c45 h
          refine AWp.cdF rfl (by first | rfl | simp only [c45, Bool.not_true, Bool.not_false, cond_true, cond_false]) ?_
          refine AWp.skip ?_
          refine nT ?_
          refine AWp.seq ?_
          refine AWp.region ?_
          obtain ⟨⟨r47, r48⟩, e46, h⟩ := bindS h
          refine AOps.cc hT hA {} (by (repeat (cbv; simp only [c45])); first | done | cbv) (lb rfl) (R49w hA e46) rfl (.inl rfl) rfl rfl rfl (lb rfl) rfl rfl ?_
          refine AOps.cd hT hA {} (by (repeat (cbv; simp only [c45])); first | done | cbv) (lb rfl) ?_
          refine nT ?_
          refine AWp.seq ?_
          refine AWp.seq ?_
          obtain ⟨⟨v57, v58⟩, hvK59, h⟩ := bindS h
          refine AWp.cutN [3, 4, 7, 11, 13, 130] [] 0 (lb rfl) (fun τ => τ = { env := [(3, (.lbox [(.d (.int .i64 x1)), (.d (.list 3 x2))])), (4, (.lbox [(.d (.int .i64 x3)), (.d (.list 3 x4))])), (7, (.d (.list 2 r15))), (11, (.d (.bool v57))), (13, (.d (.list 2 r24))), (130, (.d (.bool v58)))], heap := [], n := 165 }) ?_ ?_
          · skip
            refine AWp.region ?_
            rcases tf r47 with c49 | c49
            · replace hvK59 := cT c49 hvK59
              rcases tf (A.zeq r48 0) with c50 | c50
              · replace hvK59 := cT c50 hvK59
                obtain ⟨r52, e51, hvK59⟩ := bindS hvK59
                refine AOps.cc hT hA {} (by (repeat (cbv; simp only [c45, c49, c50])); first | done | cbv) (lb rfl) (R53w hA e51) rfl (.inl rfl) rfl rfl rfl (lb rfl) rfl rfl ?_
                rcases tf r52 with c53 | c53
                · replace hvK59 := cT c53 hvK59
                  rcases tf v42 with c54 | c54
                  · replace hvK59 := cT c54 hvK59
                    refine AOps.cd hT hA {} (by (repeat (cbv; simp only [c45, c49, c50, c53, c54])); first | done | cbv) (lb rfl) ?_
                    cases soI hvK59
                    exact oNi ⟨rfl, (by first | (cbv; done) | ((repeat (cbv; simp only [c45, c49, c50, c53, c54])); first | done | cbv))⟩
                  · replace hvK59 := cF c54 hvK59
                    obtain ⟨r56, e55, hvK59⟩ := bindS hvK59
                    refine AOps.cc hT hA {} (by (repeat (cbv; simp only [c45, c49, c50, c53, c54])); first | done | cbv) (lb rfl) (R53w hA e55) rfl (.inl rfl) rfl rfl rfl (lb rfl) rfl rfl ?_
                    refine AOps.cd hT hA {} (by (repeat (cbv; simp only [c45, c49, c50, c53, c54])); first | done | cbv) (lb rfl) ?_
                    cases soI hvK59
                    exact oNi ⟨rfl, (by first | (cbv; done) | ((repeat (cbv; simp only [c45, c49, c50, c53, c54])); first | done | cbv))⟩
                · replace hvK59 := cF c53 hvK59
                  refine AOps.cd hT hA {} (by (repeat (cbv; simp only [c45, c49, c50, c53])); first | done | cbv) (lb rfl) ?_
                  cases soI hvK59
                  exact oNi ⟨rfl, (by first | (cbv; done) | ((repeat (cbv; simp only [c45, c49, c50, c53])); first | done | cbv))⟩
              · replace hvK59 := cF c50 hvK59
                refine AOps.cd hT hA {} (by (repeat (cbv; simp only [c45, c49, c50])); first | done | cbv) (lb rfl) ?_
                cases soI hvK59
                exact oNi ⟨rfl, (by first | (cbv; done) | ((repeat (cbv; simp only [c45, c49, c50])); first | done | cbv))⟩
            · replace hvK59 := cF c49 hvK59
              refine AOps.cd hT hA {} (by (repeat (cbv; simp only [c45, c49])); first | done | cbv) (lb rfl) ?_
              cases soI hvK59
              exact oNi ⟨rfl, (by first | (cbv; done) | ((repeat (cbv; simp only [c45, c49])); first | done | cbv))⟩
          · rintro _ rfl
            refine nT ?_
            rcases tf v58 with c60 | c60
            · replace h := cT c60 h
              refine AWp.cdT rfl (by first | rfl | simp only [c60, Bool.not_true, Bool.not_false, cond_true, cond_false]) ?_
              refine AWp.seq ?_
              refine AWp.rg hT hA {} (by (repeat (cbv; simp only [c60])); first | done | cbv) (lb rfl) ?_
              refine nT ?_
              refine AWp.ret ?_
              refine rT ?_
              cases soI h
              exact ⟨rfl, rfl, rfl, lb rfl, _, rfl⟩
            · replace h := cF c60 h
              refine AWp.cdF rfl (by first | rfl | simp only [c60, Bool.not_true, Bool.not_false, cond_true, cond_false]) ?_
              refine AWp.skip ?_
              refine nT ?_
              refine AWp.seq ?_
              refine AWp.seq ?_
              refine AWp.rg hT hA {} (by (repeat (cbv; simp only [c60])); first | done | cbv) (lb rfl) ?_
              refine nT ?_
              rcases tf v57 with c61 | c61
              · replace h := cT c61 h
                refine AWp.cdF rfl (by first | rfl | simp only [c60, c61, Bool.not_true, Bool.not_false, cond_true, cond_false]) ?_
                refine AWp.skip ?_
                refine nT ?_
                refine AWp.seq ?_
                refine AWp.region ?_
                obtain ⟨⟨r68, r69⟩, e67, h⟩ := bindS h
                refine AOps.cc hT hA {} (by (repeat (cbv; simp only [c60, c61])); first | done | cbv) (lb rfl) (R49w hA e67) rfl (.inl rfl) rfl rfl rfl (lb rfl) rfl rfl ?_
                refine AOps.cd hT hA {} (by (repeat (cbv; simp only [c60, c61])); first | done | cbv) (lb rfl) ?_
                refine nT ?_
                refine AWp.seq ?_
                obtain ⟨v80, hvK81, h⟩ := bindS h
                refine AWp.cutN [6] [] 0 (lb rfl) (fun τ => τ = { env := [(6, (.d (.bool v80)))], heap := [], n := 165 }) ?_ ?_
                · skip
                  refine AWp.region ?_
                  rcases tf (A.zeq r69 0) with c70 | c70
                  · replace hvK81 := cT c70 hvK81
                    rcases tf r68 with c71 | c71
                    · replace hvK81 := cT c71 hvK81
                      obtain ⟨r73, e72, hvK81⟩ := bindS hvK81
                      refine AOps.cc hT hA { tk := [164] } (by (repeat (cbv; simp only [c60, c61, c70, c71])); first | done | cbv) (lb rfl) (R53w hA e72) rfl (.inl rfl) rfl rfl rfl (lb rfl) rfl rfl ?_
                      rcases tf r73 with c74 | c74
                      · replace hvK81 := cT c74 hvK81
                        obtain ⟨r76, e75, hvK81⟩ := bindS hvK81
                        refine AOps.cc hT hA { tk := [164] } (by (repeat (cbv; simp only [c60, c61, c70, c71, c74])); first | done | cbv) (lb rfl) (R53w hA e75) rfl (.inl rfl) rfl rfl rfl (lb rfl) rfl rfl ?_
                        rcases tf r76 with c77 | c77
                        · replace hvK81 := cT c77 hvK81
                          obtain ⟨r79, e78, hvK81⟩ := bindS hvK81
                          refine AOps.cc hT hA { tk := [164] } (by (repeat (cbv; simp only [c60, c61, c70, c71, c74, c77])); first | done | cbv) (lb rfl) (R17w hA e78) rfl (.inl rfl) rfl rfl rfl (lb rfl) rfl rfl ?_
                          refine AOps.cd hT hA { tk := [164] } (by (repeat (cbv; simp only [c60, c61, c70, c71, c74, c77])); first | done | cbv) (lb rfl) ?_
                          cases soI hvK81
                          exact oNi ⟨rfl, (by first | (cbv; done) | ((repeat (cbv; simp only [c60, c61, c70, c71, c74, c77])); first | done | cbv))⟩
                        · replace hvK81 := cF c77 hvK81
                          refine AOps.cd hT hA { tk := [164] } (by (repeat (cbv; simp only [c60, c61, c70, c71, c74, c77])); first | done | cbv) (lb rfl) ?_
                          cases soI hvK81
                          exact oNi ⟨rfl, (by first | (cbv; done) | ((repeat (cbv; simp only [c60, c61, c70, c71, c74, c77])); first | done | cbv))⟩
                      · replace hvK81 := cF c74 hvK81
                        refine AOps.cd hT hA { tk := [164] } (by (repeat (cbv; simp only [c60, c61, c70, c71, c74])); first | done | cbv) (lb rfl) ?_
                        cases soI hvK81
                        exact oNi ⟨rfl, (by first | (cbv; done) | ((repeat (cbv; simp only [c60, c61, c70, c71, c74])); first | done | cbv))⟩
                    · replace hvK81 := cF c71 hvK81
                      refine AOps.cd hT hA { tk := [164] } (by (repeat (cbv; simp only [c60, c61, c70, c71])); first | done | cbv) (lb rfl) ?_
                      cases soI hvK81
                      exact oNi ⟨rfl, (by first | (cbv; done) | ((repeat (cbv; simp only [c60, c61, c70, c71])); first | done | cbv))⟩
                  · replace hvK81 := cF c70 hvK81
                    refine AOps.cd hT hA { tk := [164] } (by (repeat (cbv; simp only [c60, c61, c70])); first | done | cbv) (lb rfl) ?_
                    cases soI hvK81
                    exact oNi ⟨rfl, (by first | (cbv; done) | ((repeat (cbv; simp only [c60, c61, c70])); first | done | cbv))⟩
                · rintro _ rfl
                  refine nT ?_
                  refine AWp.ret ?_
                  cases soI h
                  exact ⟨rfl, rfl, rfl, lb rfl, _, rfl⟩
              · replace h := cF c61 h
                refine AWp.cdT rfl (by first | rfl | simp only [c60, c61, Bool.not_true, Bool.not_false, cond_true, cond_false]) ?_
                refine AWp.seq ?_
                obtain ⟨v65, hvK66, h⟩ := bindS h
                refine AWp.cutN [6] [] 0 (lb rfl) (fun τ => τ = { env := [(6, (.d (.bool v65)))], heap := [], n := 165 }) ?_ ?_
                · skip
                  refine AWp.region ?_
                  rcases tf (A.zeq (A.len r24) 0) with c62 | c62
                  · replace hvK66 := cT c62 hvK66
                    obtain ⟨r64, e63, hvK66⟩ := bindS hvK66
                    refine AOps.cc hT hA { tk := [138] } (by (repeat (cbv; simp only [c60, c61, c62])); first | done | cbv) (lb rfl) (R17w hA e63) rfl (.inl rfl) rfl rfl rfl (lb rfl) rfl rfl ?_
                    refine AOps.cd hT hA { tk := [138] } (by (repeat (cbv; simp only [c60, c61, c62])); first | done | cbv) (lb rfl) ?_
                    cases soI hvK66
                    exact oNi ⟨rfl, (by first | (cbv; done) | ((repeat (cbv; simp only [c60, c61, c62])); first | done | cbv))⟩
                  · replace hvK66 := cF c62 hvK66
                    refine AOps.cd hT hA { tk := [138] } (by (repeat (cbv; simp only [c60, c61, c62])); first | done | cbv) (lb rfl) ?_
                    cases soI hvK66
                    exact oNi ⟨rfl, (by first | (cbv; done) | ((repeat (cbv; simp only [c60, c61, c62])); first | done | cbv))⟩
                · rintro _ rfl
                  refine nT ?_
                  refine AWp.ret ?_
                  refine rT ?_
                  cases soI h
                  exact ⟨rfl, rfl, rfl, lb rfl, _, rfl⟩
end Go.Am
