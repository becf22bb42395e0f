/- Own text: Genw0. -/
import Derived.Test.YtalfdjihejohoaaGenp0
import Derived.Test.YtalfdjihejohoaaAmPur
import Derived.Test.YtalfdjihejohoaaAmPur
set_option maxRecDepth 100000
set_option maxHeartbeats 2000000
set_option linter.unusedVariables false
set_option linter.unusedSimpArgs false
namespace Go.Am
open Go Go.Proofs
theorem E62w {A : Ar} (hA : A = Ar.std) {x1 : List D} {v44 : List D} (h : E62 A x1 = some v44) : ACall Try.prog 62 [(.d (.list 1 x1))] [] (.own 2 v44) [] := by
  unfold E62 at h
  refine ACall.enter hT (fn := Try.f62) Try.func62 rfl (by decide) (by simp [Try.f62]) rfl rfl rfl rfl (lb rfl) ?_
  refine AWp.seq ?_
  refine AWp.rg hT hA {} (by cbv) (lb rfl) ?_
  refine nT ?_
  refine AWp.seq ?_
  refine AWp.rg hT hA {} (by cbv) (lb rfl) ?_
  refine nT ?_
  refine AWp.seq ?_
  refine AWp.seq ?_
  refine AWp.rg hT hA {} (by cbv) (lb rfl) ?_
  refine nT ?_
  refine AWp.block ?_
  obtain ⟨xK43, hxK43, K43, hK43, hkK43⟩ := bindK h
  refine AWp.cutX 0 [3] [] 0 (lb rfl) (fun τ => ∃ v42, K43 v42 = some v44 ∧ τ = { env := [(3, (.own 2 v42))], heap := [], n := 28 }) ?_ ?_
  · skip
    refine AWp.iter hxK43 [3, 7, 8, 9] [] 0 (lb rfl) (fun (v21, v22) => { env := [(3, (.own 2 v21)), (7, (.d (.list 1 x1))), (8, (.d (.int .i64 (A.len x1)))), (9, (.d (.int .i64 v22)))], heap := [], n := 28 }) ⟨rfl, (by cbv)⟩ ?_
    rintro ⟨v21, v22⟩ eK43 hsK43
    dsimp only [E62L1] at hsK43
    refine AWp.seq ?_
    refine AWp.rg hT hA {} (by cbv) (lb rfl) ?_
    refine nT ?_
    refine AWp.seq ?_
    rcases tf (A.zlt v22 (A.len x1)) with c23 | c23
    · replace hsK43 := cT c23 hsK43
      refine AWp.cdT rfl (by first | rfl | simp only [c23, Bool.not_true, Bool.not_false, cond_true, cond_false]) ?_
      refine AWp.skip ?_
      refine nT ?_
      refine AWp.seq ?_
      refine AWp.block ?_
      refine AWp.seq ?_
      obtain ⟨a24, e25, hsK43⟩ := bindS hsK43
      obtain ⟨f26, f27⟩ := gtI e25
      refine AWp.rg hT hA {} (by (repeat (cbv; simp only [c23, f26, f27])); first | done | cbv) (lb rfl) ?_
      refine nT ?_
      refine AWp.seq ?_
      refine AWp.rg hT hA {} (by (repeat (cbv; simp only [c23])); first | done | cbv) (lb rfl) ?_
      refine nT ?_
      refine AWp.block ?_
      obtain ⟨xK41, hxK41, K41, hK41, hkK41⟩ := bindK hsK43
      refine AWp.cutX 2 [3, 7, 8, 9] [] 0 (lb rfl) (fun τ => ∃ v40, K41 v40 = some eK43 ∧ τ = { env := [(3, (.own 2 v40)), (7, (.d (.list 1 x1))), (8, (.d (.int .i64 (A.len x1)))), (9, (.d (.int .i64 v22)))], heap := [], n := 28 }) ?_ ?_
      · skip
        refine AWp.iter hxK41 [3, 4, 7, 8, 9, 15, 16] [] 0 (lb rfl) (fun (v33, v34) => { env := [(3, (.own 2 v33)), (4, (.d (.int .i64 v22))), (7, (.d (.list 1 x1))), (8, (.d (.int .i64 (A.len x1)))), (9, (.d (.int .i64 v22))), (15, (.d (.int .i64 (A.len a24)))), (16, (.d (.int .i64 v34)))], heap := [], n := 28 }) ⟨rfl, (by first | (cbv; done) | ((repeat (cbv; simp only [c23])); first | done | cbv))⟩ ?_
        rintro ⟨v33, v34⟩ eK41 hsK41
        dsimp only [E62L0] at hsK41
        refine AWp.seq ?_
        refine AWp.rg hT hA {} (by cbv) (lb rfl) ?_
        refine nT ?_
        refine AWp.seq ?_
        rcases tf (A.zlt v34 (A.len a24)) with c35 | c35
        · replace hsK41 := cT c35 hsK41
          refine AWp.cdT rfl (by first | rfl | simp only [c35, Bool.not_true, Bool.not_false, cond_true, cond_false]) ?_
          refine AWp.skip ?_
          refine nT ?_
          refine AWp.seq ?_
          refine AWp.block ?_
          refine AWp.seq ?_
          refine AWp.rg hT hA {} (by (repeat (cbv; simp only [c35])); first | done | cbv) (lb rfl) ?_
          refine nT ?_
          obtain ⟨l36, e37, hsK41⟩ := bindS hsK41
          obtain ⟨f38, f39⟩ := apI e37
          refine AWp.rg hT hA { tk := [3, 24] } (by (repeat (cbv; simp only [c35, f38, f39])); first | done | cbv) (lb rfl) ?_
          refine nB ?_
          refine nT ?_
          refine AWp.rg hT hA {} (by (repeat (cbv; simp only [c35])); first | done | cbv) (lb rfl) ?_
          exact nT ⟨_, (soI hsK41).symm, rfl, (by first | (cbv; done) | ((repeat (cbv; simp only [c35])); first | done | cbv))⟩
        · replace hsK41 := cF c35 hsK41
          refine AWp.cdF rfl (by first | rfl | simp only [c35, Bool.not_true, Bool.not_false, cond_true, cond_false]) ?_
          refine AWp.exit ?_
          refine xT ?_
          refine xT ?_
          refine exL hsK41 fun hx => ?_
          subst hx
          exact oxI ⟨rfl, _, hkK41, (by first | (cbv; done) | ((repeat (cbv; simp only [c35])); first | done | cbv))⟩
      · rintro _ ⟨v40, hkK41, rfl⟩
        have hsK43 := (hK41 _ hkK41)
        refine xB ?_
        refine nB ?_
        refine nT ?_
        refine AWp.rg hT hA {} (by cbv) (lb rfl) ?_
        exact nT ⟨_, (soI hsK43).symm, rfl, (by cbv)⟩
    · replace hsK43 := cF c23 hsK43
      refine AWp.cdF rfl (by first | rfl | simp only [c23, Bool.not_true, Bool.not_false, cond_true, cond_false]) ?_
      refine AWp.exit ?_
      refine xT ?_
      refine xT ?_
      refine exL hsK43 fun hx => ?_
      subst hx
      exact oxI ⟨rfl, _, hkK43, (by first | (cbv; done) | ((repeat (cbv; simp only [c23])); first | done | cbv))⟩
  · rintro _ ⟨v42, hkK43, rfl⟩
    have h := (hK43 _ hkK43)
    refine xB ?_
    refine nT ?_
    refine AWp.seq ?_
    refine AWp.rg hT hA { tk := [3, 27] } (by cbv) (lb rfl) ?_
    refine nT ?_
    refine AWp.ret ?_
    cases soI h
    exact ⟨rfl, rfl, rfl, lb rfl, _, rfl⟩

theorem E44w {A : Ar} (hA : A = Ar.std) {x1 : List D} {x2 : List D} {v154 : List D} {v155 : Int} (h : E44 A x1 x2 = some (v154, v155)) : ACall Try.prog 44 [(.d (.list 1 x1)), (.d (.list 2 x2))] [] (.tuple [(.d (.list 1 v154)), (.d (.int .i64 v155))]) [] := by
  unfold E44 at h
  refine ACall.enter hT (fn := Try.f44) Try.func44 rfl (by decide) (by simp [Try.f44]) rfl rfl rfl rfl (lb rfl) ?_
  refine AWp.seq ?_
  refine AWp.rg hT hA {} (by cbv) (lb rfl) ?_
  refine nT ?_
  refine AWp.seq ?_
  refine AWp.region ?_
  obtain ⟨⟨r4, r5⟩, e3, h⟩ := bindS h
  refine AOps.cc hT hA {} (by cbv) (lb rfl) (E85w hA e3) rfl (.inl rfl) rfl rfl rfl (lb rfl) rfl rfl ?_
  refine AOps.cd hT hA {} (by cbv) (lb rfl) ?_
  refine nT ?_
  refine AWp.seq ?_
  refine AWp.seq ?_
  obtain ⟨v9, hvK10, h⟩ := bindS h
  refine AWp.cutN [0, 6, 7, 29] [] 0 (lb rfl) (fun τ => τ = { env := [(0, (.d (.list 1 x1))), (6, (.d (.list 2 r4))), (7, (.d (.int .i64 r5))), (29, (.d (.bool v9)))], heap := [], n := 79 }) ?_ ?_
  · skip
    refine AWp.region ?_
    rcases tf (A.zeq r5 0) with c6 | c6
    · replace hvK10 := cT c6 hvK10
      obtain ⟨r8, e7, hvK10⟩ := bindS hvK10
      refine AOps.cc hT hA {} (by (repeat (cbv; simp only [c6])); first | done | cbv) (lb rfl) (E62w hA e7) rfl (.inl rfl) rfl rfl rfl (lb rfl) rfl rfl ?_
      refine AOps.cd hT hA {} (by (repeat (cbv; simp only [c6])); first | done | cbv) (lb rfl) ?_
      cases soI hvK10
      exact oNi ⟨rfl, (by first | (cbv; done) | ((repeat (cbv; simp only [c6])); first | done | cbv))⟩
    · replace hvK10 := cF c6 hvK10
      refine AOps.cd hT hA {} (by (repeat (cbv; simp only [c6])); first | done | cbv) (lb rfl) ?_
      cases soI hvK10
      exact oNi ⟨rfl, (by first | (cbv; done) | ((repeat (cbv; simp only [c6])); first | done | cbv))⟩
  · rintro _ rfl
    refine nT ?_
    obtain ⟨v12, hvK13, h⟩ := bindS h
    refine AWp.cutN [0, 6, 7] [] 0 (lb rfl) (fun τ => τ = { env := [(0, (.d (.list 1 x1))), (6, (.d (.list 2 r4))), (7, (.d (.int .i64 v12)))], heap := [], n := 79 }) ?_ ?_
    · skip
      rcases tf v9 with c11 | c11
      · replace hvK13 := cT c11 hvK13
        refine AWp.cdT rfl (by first | rfl | simp only [c11, Bool.not_true, Bool.not_false, cond_true, cond_false]) ?_
        refine AWp.rg hT hA {} (by (repeat (cbv; simp only [c11])); first | done | cbv) (lb rfl) ?_
        cases soI hvK13
        exact oNi ⟨rfl, (by first | (cbv; done) | ((repeat (cbv; simp only [c11])); first | done | cbv))⟩
      · replace hvK13 := cF c11 hvK13
        refine AWp.cdF rfl (by first | rfl | simp only [c11, Bool.not_true, Bool.not_false, cond_true, cond_false]) ?_
        refine AWp.skip ?_
        cases soI hvK13
        exact oNi ⟨rfl, (by first | (cbv; done) | ((repeat (cbv; simp only [c11])); first | done | cbv))⟩
    · rintro _ rfl
      refine nT ?_
      refine AWp.seq ?_
      refine AWp.seq ?_
      refine AWp.rg hT hA {} (by cbv) (lb rfl) ?_
      refine nT ?_
      rcases tf (A.zeq v12 0) with c14 | c14
      · replace h := cT c14 h
        refine AWp.cdF rfl (by first | rfl | simp only [c14, Bool.not_true, Bool.not_false, cond_true, cond_false]) ?_
        refine AWp.skip ?_
        refine nT ?_
        refine AWp.seq ?_
        refine AWp.rg hT hA {} (by (repeat (cbv; simp only [c14])); first | done | cbv) (lb rfl) ?_
        refine nT ?_
        refine AWp.seq ?_
        refine AWp.rg hT hA {} (by (repeat (cbv; simp only [c14])); first | done | cbv) (lb rfl) ?_
        refine nT ?_
        refine AWp.seq ?_
        refine AWp.seq ?_
        refine AWp.rg hT hA {} (by (repeat (cbv; simp only [c14])); first | done | cbv) (lb rfl) ?_
        refine nT ?_
        refine AWp.block ?_
        obtain ⟨xK153, hxK153, K153, hK153, hkK153⟩ := bindK h
        refine AWp.cutX 0 [9] [] 0 (lb rfl) (fun τ => ∃ v152, K153 v152 = some (v154, v155) ∧ τ = { env := [(9, (.own 1 v152))], heap := [], n := 79 }) ?_ ?_
        · skip
          refine AWp.iter hxK153 [6, 8, 9, 33, 34, 35] [] 0 (lb rfl) (fun (v82, v83, v84) => { env := [(6, (.d (.list 2 r4))), (8, (.d (.int .i64 v82))), (9, (.own 1 v83)), (33, (.d (.list 1 x1))), (34, (.d (.int .i64 (A.len x1)))), (35, (.d (.int .i64 v84)))], heap := [], n := 79 }) ⟨rfl, (by first | (cbv; done) | ((repeat (cbv; simp only [c14])); first | done | cbv))⟩ ?_
          rintro ⟨v82, v83, v84⟩ eK153 hsK153
          dsimp only [E44L1] at hsK153
          refine AWp.seq ?_
          refine AWp.rg hT hA {} (by cbv) (lb rfl) ?_
          refine nT ?_
          refine AWp.seq ?_
          rcases tf (A.zlt v84 (A.len x1)) with c85 | c85
          · replace hsK153 := cT c85 hsK153
            refine AWp.cdT rfl (by first | rfl | simp only [c85, Bool.not_true, Bool.not_false, cond_true, cond_false]) ?_
            refine AWp.skip ?_
            refine nT ?_
            refine AWp.seq ?_
            refine AWp.block ?_
            refine AWp.seq ?_
            obtain ⟨a86, e87, hsK153⟩ := bindS hsK153
            obtain ⟨f88, f89⟩ := gtI e87
            refine AWp.rg hT hA {} (by (repeat (cbv; simp only [c85, f88, f89])); first | done | cbv) (lb rfl) ?_
            refine nT ?_
            refine AWp.seq ?_
            refine AWp.rg hT hA {} (by (repeat (cbv; simp only [c85])); first | done | cbv) (lb rfl) ?_
            refine nT ?_
            refine AWp.seq ?_
            refine AWp.seq ?_
            refine AWp.rg hT hA {} (by (repeat (cbv; simp only [c85])); first | done | cbv) (lb rfl) ?_
            refine nT ?_
            refine AWp.block ?_
            obtain ⟨xK147, hxK147, K147, hK147, hkK147⟩ := bindK hsK153
            refine AWp.cutX 2 [6, 8, 9, 12, 33, 34, 35] [] 0 (lb rfl) (fun τ => ∃ v145 v146, K147 (v145, v146) = some eK153 ∧ τ = { env := [(6, (.d (.list 2 r4))), (8, (.d (.int .i64 v145))), (9, (.own 1 v83)), (12, (.own 3 v146)), (33, (.d (.list 1 x1))), (34, (.d (.int .i64 (A.len x1)))), (35, (.d (.int .i64 v84)))], heap := [], n := 79 }) ?_ ?_
            · skip
              refine AWp.iter hxK147 [6, 8, 9, 10, 12, 33, 34, 35, 40, 41, 42] [] 0 (lb rfl) (fun (v116, v117, v118) => { env := [(6, (.d (.list 2 r4))), (8, (.d (.int .i64 v116))), (9, (.own 1 v83)), (10, (.d (.int .i64 v84))), (12, (.own 3 v117)), (33, (.d (.list 1 x1))), (34, (.d (.int .i64 (A.len x1)))), (35, (.d (.int .i64 v84))), (40, (.d (.list 2 a86))), (41, (.d (.int .i64 (A.len a86)))), (42, (.d (.int .i64 v118)))], heap := [], n := 79 }) ⟨rfl, (by first | (cbv; done) | ((repeat (cbv; simp only [c85])); first | done | cbv))⟩ ?_
              rintro ⟨v116, v117, v118⟩ eK147 hsK147
              dsimp only [E44L0] at hsK147
              refine AWp.seq ?_
              refine AWp.rg hT hA {} (by cbv) (lb rfl) ?_
              refine nT ?_
              refine AWp.seq ?_
              rcases tf (A.zlt v118 (A.len a86)) with c119 | c119
              · replace hsK147 := cT c119 hsK147
                refine AWp.cdT rfl (by first | rfl | simp only [c119, Bool.not_true, Bool.not_false, cond_true, cond_false]) ?_
                refine AWp.skip ?_
                refine nT ?_
                refine AWp.seq ?_
                refine AWp.block ?_
                refine AWp.seq ?_
                obtain ⟨⟨a120, a121⟩, e122, hsK147⟩ := bindS hsK147
                obtain ⟨f123, f124⟩ := gtI e122
                refine AWp.rg hT hA { tk := [46] } (by (repeat (cbv; simp only [c119, f123, f124])); first | done | cbv) (lb rfl) ?_
                refine nT ?_
                refine AWp.seq ?_
                refine AWp.rg hT hA { tk := [49] } (by (repeat (cbv; simp only [c119])); first | done | cbv) (lb rfl) ?_
                refine nT ?_
                refine AWp.seq ?_
                refine AWp.seq ?_
                refine AWp.rg hT hA {} (by (repeat (cbv; simp only [c119])); first | done | cbv) (lb rfl) ?_
                refine nT ?_
                obtain ⟨⟨v128, v129, v130⟩, hvK131, hsK147⟩ := bindS hsK147
                refine AWp.cutN [6, 8, 9, 10, 12, 13, 15, 33, 34, 35, 40, 41, 42] [] 0 (lb rfl) (fun τ => τ = { env := [(6, (.d (.list 2 r4))), (8, (.d (.int .i64 v128))), (9, (.own 1 v83)), (10, (.d (.int .i64 v84))), (12, (.own 3 v117)), (13, (.d (.int .i64 v118))), (15, (.lbox [(.d (.int .i64 v129)), (.d (.int .i64 a120)), (.d (.int .i64 v130))])), (33, (.d (.list 1 x1))), (34, (.d (.int .i64 (A.len x1)))), (35, (.d (.int .i64 v84))), (40, (.d (.list 2 a86))), (41, (.d (.int .i64 (A.len a86)))), (42, (.d (.int .i64 v118)))], heap := [], n := 79 }) ?_ ?_
                · skip
                  rcases tf a121 with c125 | c125
                  · replace hvK131 := cT c125 hvK131
                    refine AWp.cdT rfl (by first | rfl | simp only [c119, c125, Bool.not_true, Bool.not_false, cond_true, cond_false]) ?_
                    refine AWp.seq ?_
                    obtain ⟨_, e126, hvK131⟩ := bindS hvK131
                    have f127 := nkI e126
                    refine AWp.rg hT hA {} (by (repeat (cbv; simp only [c119, c125, f127])); first | done | cbv) (lb rfl) ?_
                    refine nT ?_
                    refine AWp.rg hT hA {} (by (repeat (cbv; simp only [c119, c125])); first | done | cbv) (lb rfl) ?_
                    cases soI hvK131
                    exact oNi ⟨rfl, (by first | (cbv; done) | ((repeat (cbv; simp only [c119, c125])); first | done | cbv))⟩
                  · replace hvK131 := cF c125 hvK131
                    refine AWp.cdF rfl (by first | rfl | simp only [c119, c125, Bool.not_true, Bool.not_false, cond_true, cond_false]) ?_
                    refine AWp.skip ?_
                    cases soI hvK131
                    exact oNi ⟨rfl, (by first | (cbv; done) | ((repeat (cbv; simp only [c119, c125])); first | done | cbv))⟩
                · rintro _ rfl
                  refine nT ?_
                  refine AWp.seq ?_
                  obtain ⟨l132, e133, hsK147⟩ := bindS hsK147
                  obtain ⟨f134, f135⟩ := apI e133
                  refine AWp.rg hT hA { tk := [12, 62] } (by (repeat (cbv; simp only [f134, f135])); first | done | cbv) (lb rfl) ?_
                  refine nT ?_
                  refine AWp.seq ?_
                  refine AWp.region ?_
                  obtain ⟨r137, e136, hsK147⟩ := bindS hsK147
                  refine AOps.cc hT hA {} (by cbv) (lb rfl) (E96w hA e136) rfl (.inl rfl) rfl rfl rfl (lb rfl) rfl rfl ?_
                  refine AOps.cd hT hA {} (by cbv) (lb rfl) ?_
                  refine nT ?_
                  obtain ⟨v143, hvK144, hsK147⟩ := bindS hsK147
                  refine AWp.cutN [6, 8, 9, 10, 12, 33, 34, 35, 40, 41, 42] [] 0 (lb rfl) (fun τ => τ = { env := [(6, (.d (.list 2 r4))), (8, (.d (.int .i64 v128))), (9, (.own 1 v83)), (10, (.d (.int .i64 v84))), (12, (.own 3 v143)), (33, (.d (.list 1 x1))), (34, (.d (.int .i64 (A.len x1)))), (35, (.d (.int .i64 v84))), (40, (.d (.list 2 a86))), (41, (.d (.int .i64 (A.len a86)))), (42, (.d (.int .i64 v118)))], heap := [], n := 79 }) ?_ ?_
                  · skip
                    rcases tf r137 with c138 | c138
                    · replace hvK144 := cT c138 hvK144
                      refine AWp.cdT rfl (by first | rfl | simp only [c138, Bool.not_true, Bool.not_false, cond_true, cond_false]) ?_
                      obtain ⟨l139, e140, hvK144⟩ := bindS hvK144
                      obtain ⟨f141, f142⟩ := apI e140
                      refine AWp.rg hT hA { tk := [12, 71] } (by (repeat (cbv; simp only [c138, f141, f142])); first | done | cbv) (lb rfl) ?_
                      cases soI hvK144
                      exact oNi ⟨rfl, (by first | (cbv; done) | ((repeat (cbv; simp only [c138])); first | done | cbv))⟩
                    · replace hvK144 := cF c138 hvK144
                      refine AWp.cdF rfl (by first | rfl | simp only [c138, Bool.not_true, Bool.not_false, cond_true, cond_false]) ?_
                      refine AWp.skip ?_
                      cases soI hvK144
                      exact oNi ⟨rfl, (by first | (cbv; done) | ((repeat (cbv; simp only [c138])); first | done | cbv))⟩
                  · rintro _ rfl
                    refine nB ?_
                    refine nT ?_
                    refine AWp.rg hT hA {} (by cbv) (lb rfl) ?_
                    exact nT ⟨_, (soI hsK147).symm, rfl, (by cbv)⟩
              · replace hsK147 := cF c119 hsK147
                refine AWp.cdF rfl (by first | rfl | simp only [c119, Bool.not_true, Bool.not_false, cond_true, cond_false]) ?_
                refine AWp.exit ?_
                refine xT ?_
                refine xT ?_
                refine exL hsK147 fun hx => ?_
                subst hx
                exact oxI ⟨rfl, _, _, hkK147, (by first | (cbv; done) | ((repeat (cbv; simp only [c119])); first | done | cbv))⟩
            · rintro _ ⟨v145, v146, hkK147, rfl⟩
              have hsK153 := (hK147 _ hkK147)
              refine xB ?_
              refine nT ?_
              obtain ⟨l148, e149, hsK153⟩ := bindS hsK153
              obtain ⟨f150, f151⟩ := apI e149
              refine AWp.rg hT hA { tk := [9, 76] } (by (repeat (cbv; simp only [f150, f151])); first | done | cbv) (lb rfl) ?_
              refine nB ?_
              refine nT ?_
              refine AWp.rg hT hA {} (by cbv) (lb rfl) ?_
              exact nT ⟨_, (soI hsK153).symm, rfl, (by cbv)⟩
          · replace hsK153 := cF c85 hsK153
            refine AWp.cdF rfl (by first | rfl | simp only [c85, Bool.not_true, Bool.not_false, cond_true, cond_false]) ?_
            refine AWp.exit ?_
            refine xT ?_
            refine xT ?_
            refine exL hsK153 fun hx => ?_
            subst hx
            exact oxI ⟨rfl, _, hkK153, (by first | (cbv; done) | ((repeat (cbv; simp only [c85])); first | done | cbv))⟩
        · rintro _ ⟨v152, hkK153, rfl⟩
          have h := (hK153 _ hkK153)
          refine xB ?_
          refine nT ?_
          refine AWp.seq ?_
          refine AWp.rg hT hA {} (by cbv) (lb rfl) ?_
          refine nT ?_
          refine AWp.ret ?_
          cases soI h
          exact ⟨rfl, rfl, rfl, lb rfl, _, rfl⟩
      · replace h := cF c14 h
        refine AWp.cdT rfl (by first | rfl | simp only [c14, Bool.not_true, Bool.not_false, cond_true, cond_false]) ?_
        refine AWp.seq ?_
        refine AWp.rg hT hA {} (by (repeat (cbv; simp only [c14])); first | done | cbv) (lb rfl) ?_
        refine nT ?_
        refine AWp.ret ?_
        refine rT ?_
        cases soI h
        exact ⟨rfl, rfl, rfl, lb rfl, _, rfl⟩

theorem E45w {A : Ar} (hA : A = Ar.std) {x1 : List D} {x2 : List D} {v236 : List D} {v237 : Int} (h : E45 A x1 x2 = some (v236, v237)) : ACall Try.prog 45 [(.d (.list 1 x1)), (.d (.list 2 x2))] [] (.tuple [(.d (.list 1 v236)), (.d (.int .i64 v237))]) [] := by
  unfold E45 at h
  refine ACall.enter hT (fn := Try.f45) Try.func45 rfl (by decide) (by simp [Try.f45]) rfl rfl rfl rfl (lb rfl) ?_
  refine AWp.seq ?_
  refine AWp.rg hT hA {} (by cbv) (lb rfl) ?_
  refine nT ?_
  refine AWp.seq ?_
  refine AWp.seq ?_
  refine AWp.region ?_
  obtain ⟨r4, e3, h⟩ := bindS h
  refine AOps.cc hT hA {} (by cbv) (lb rfl) (E89w hA e3) rfl (.inl rfl) rfl rfl rfl (lb rfl) rfl rfl ?_
  refine AOps.cd hT hA {} (by cbv) (lb rfl) ?_
  refine nT ?_
  refine AWp.seq ?_
  refine AWp.rg hT hA {} (by cbv) (lb rfl) ?_
  refine nT ?_
  rcases tf (A.zeq r4 0) with c5 | c5
  · replace h := cT c5 h
    refine AWp.cdF rfl (by first | rfl | simp only [c5, Bool.not_true, Bool.not_false, cond_true, cond_false]) ?_
    refine AWp.skip ?_
    refine nT ?_
    refine AWp.seq ?_
    refine AWp.rg hT hA {} (by (repeat (cbv; simp only [c5])); first | done | cbv) (lb rfl) ?_
    refine nT ?_
    refine AWp.seq ?_
    refine AWp.rg hT hA {} (by (repeat (cbv; simp only [c5])); first | done | cbv) (lb rfl) ?_
    refine nT ?_
    refine AWp.seq ?_
    refine AWp.seq ?_
    refine AWp.rg hT hA {} (by (repeat (cbv; simp only [c5])); first | done | cbv) (lb rfl) ?_
    refine nT ?_
    refine AWp.block ?_
    obtain ⟨xK234, hxK234, K234, hK234, hkK234⟩ := bindK h
    refine AWp.cutX 0 [7, 8] [] 0 (lb rfl) (fun τ => ∃ v232 v233, K234 (v232, v233) = some (v236, v237) ∧ τ = { env := [(7, (.own 1 v232)), (8, (.d (.int .i64 v233)))], heap := [], n := 82 }) ?_ ?_
    · skip
      refine AWp.iter hxK234 [1, 7, 8, 9, 24, 25, 26] [] 0 (lb rfl) (fun (v117, v118, v119, v120) => { env := [(1, (.d (.list 2 x2))), (7, (.own 1 v117)), (8, (.d (.int .i64 v118))), (9, (.d (.int .i64 v119))), (24, (.d (.list 1 x1))), (25, (.d (.int .i64 (A.len x1)))), (26, (.d (.int .i64 v120)))], heap := [], n := 82 }) ⟨rfl, (by first | (cbv; done) | ((repeat (cbv; simp only [c5])); first | done | cbv))⟩ ?_
      rintro ⟨v117, v118, v119, v120⟩ eK234 hsK234
      dsimp only [E45L2] at hsK234
      refine AWp.seq ?_
      refine AWp.rg hT hA {} (by cbv) (lb rfl) ?_
      refine nT ?_
      refine AWp.seq ?_
      rcases tf (A.zlt v120 (A.len x1)) with c121 | c121
      · replace hsK234 := cT c121 hsK234
        refine AWp.cdT rfl (by first | rfl | simp only [c121, Bool.not_true, Bool.not_false, cond_true, cond_false]) ?_
        refine AWp.skip ?_
        refine nT ?_
        refine AWp.seq ?_
        refine AWp.block ?_
        refine AWp.seq ?_
        obtain ⟨a122, e123, hsK234⟩ := bindS hsK234
        obtain ⟨f124, f125⟩ := gtI e123
        refine AWp.rg hT hA {} (by (repeat (cbv; simp only [c121, f124, f125])); first | done | cbv) (lb rfl) ?_
        refine nT ?_
        refine AWp.seq ?_
        refine AWp.rg hT hA {} (by (repeat (cbv; simp only [c121])); first | done | cbv) (lb rfl) ?_
        refine nT ?_
        refine AWp.seq ?_
        refine AWp.seq ?_
        refine AWp.rg hT hA {} (by (repeat (cbv; simp only [c121])); first | done | cbv) (lb rfl) ?_
        refine nT ?_
        refine AWp.block ?_
        obtain ⟨xK227, hxK227, K227, hK227, hkK227⟩ := bindK hsK234
        refine AWp.cutX 2 [1, 7, 8, 9, 12, 24, 25, 26] [] 0 (lb rfl) (fun τ => ∃ v224 v225 v226, K227 (v224, v225, v226) = some eK234 ∧ τ = { env := [(1, (.d (.list 2 x2))), (7, (.own 1 v117)), (8, (.d (.int .i64 v224))), (9, (.d (.int .i64 v225))), (12, (.own 3 v226)), (24, (.d (.list 1 x1))), (25, (.d (.int .i64 (A.len x1)))), (26, (.d (.int .i64 v120)))], heap := [], n := 82 }) ?_ ?_
        · skip
          refine AWp.iter hxK227 [1, 7, 8, 9, 10, 12, 24, 25, 26, 31, 32, 33] [] 0 (lb rfl) (fun (v173, v174, v175, v176) => { env := [(1, (.d (.list 2 x2))), (7, (.own 1 v117)), (8, (.d (.int .i64 v173))), (9, (.d (.int .i64 v174))), (10, (.d (.int .i64 v120))), (12, (.own 3 v175)), (24, (.d (.list 1 x1))), (25, (.d (.int .i64 (A.len x1)))), (26, (.d (.int .i64 v120))), (31, (.d (.list 2 a122))), (32, (.d (.int .i64 (A.len a122)))), (33, (.d (.int .i64 v176)))], heap := [], n := 82 }) ⟨rfl, (by first | (cbv; done) | ((repeat (cbv; simp only [c121])); first | done | cbv))⟩ ?_
          rintro ⟨v173, v174, v175, v176⟩ eK227 hsK227
          dsimp only [E45L1] at hsK227
          refine AWp.seq ?_
          refine AWp.rg hT hA {} (by cbv) (lb rfl) ?_
          refine nT ?_
          refine AWp.seq ?_
          rcases tf (A.zlt v176 (A.len a122)) with c177 | c177
          · replace hsK227 := cT c177 hsK227
            refine AWp.cdT rfl (by first | rfl | simp only [c177, Bool.not_true, Bool.not_false, cond_true, cond_false]) ?_
            refine AWp.skip ?_
            refine nT ?_
            refine AWp.seq ?_
            refine AWp.block ?_
            refine AWp.seq ?_
            obtain ⟨⟨a178, a179⟩, e180, hsK227⟩ := bindS hsK227
            obtain ⟨f181, f182⟩ := gtI e180
            refine AWp.rg hT hA { tk := [37] } (by (repeat (cbv; simp only [c177, f181, f182])); first | done | cbv) (lb rfl) ?_
            refine nT ?_
            refine AWp.seq ?_
            refine AWp.rg hT hA {} (by (repeat (cbv; simp only [c177])); first | done | cbv) (lb rfl) ?_
            refine nT ?_
            refine AWp.seq ?_
            refine AWp.rg hT hA { tk := [42] } (by (repeat (cbv; simp only [c177])); first | done | cbv) (lb rfl) ?_
            refine nT ?_
            refine AWp.seq ?_
            refine AWp.seq ?_
            refine AWp.rg hT hA {} (by (repeat (cbv; simp only [c177])); first | done | cbv) (lb rfl) ?_
            refine nT ?_
            obtain ⟨⟨v186, v187, v188⟩, hvK189, hsK227⟩ := bindS hsK227
            refine AWp.cutN [1, 7, 8, 9, 10, 12, 13, 15, 24, 25, 26, 31, 32, 33] [] 0 (lb rfl) (fun τ => τ = { env := [(1, (.d (.list 2 x2))), (7, (.own 1 v117)), (8, (.d (.int .i64 (A.wrp .i64 (A.zadd v173 1))))), (9, (.d (.int .i64 v186))), (10, (.d (.int .i64 v120))), (12, (.own 3 v175)), (13, (.d (.int .i64 v176))), (15, (.lbox [(.d (.int .i64 v187)), (.d (.int .i64 a178)), (.d (.int .i64 v188))])), (24, (.d (.list 1 x1))), (25, (.d (.int .i64 (A.len x1)))), (26, (.d (.int .i64 v120))), (31, (.d (.list 2 a122))), (32, (.d (.int .i64 (A.len a122)))), (33, (.d (.int .i64 v176)))], heap := [], n := 82 }) ?_ ?_
            · skip
              rcases tf a179 with c183 | c183
              · replace hvK189 := cT c183 hvK189
                refine AWp.cdT rfl (by first | rfl | simp only [c177, c183, Bool.not_true, Bool.not_false, cond_true, cond_false]) ?_
                refine AWp.seq ?_
                obtain ⟨_, e184, hvK189⟩ := bindS hvK189
                have f185 := nkI e184
                refine AWp.rg hT hA { tk := [50] } (by (repeat (cbv; simp only [c177, c183, f185])); first | done | cbv) (lb rfl) ?_
                refine nT ?_
                refine AWp.rg hT hA {} (by (repeat (cbv; simp only [c177, c183])); first | done | cbv) (lb rfl) ?_
                cases soI hvK189
                exact oNi ⟨rfl, (by first | (cbv; done) | ((repeat (cbv; simp only [c177, c183])); first | done | cbv))⟩
              · replace hvK189 := cF c183 hvK189
                refine AWp.cdF rfl (by first | rfl | simp only [c177, c183, Bool.not_true, Bool.not_false, cond_true, cond_false]) ?_
                refine AWp.skip ?_
                cases soI hvK189
                exact oNi ⟨rfl, (by first | (cbv; done) | ((repeat (cbv; simp only [c177, c183])); first | done | cbv))⟩
            · rintro _ rfl
              refine nT ?_
              refine AWp.seq ?_
              obtain ⟨l190, e191, hsK227⟩ := bindS hsK227
              obtain ⟨f192, f193⟩ := apI e191
              refine AWp.rg hT hA { tk := [12, 56] } (by (repeat (cbv; simp only [f192, f193])); first | done | cbv) (lb rfl) ?_
              refine nT ?_
              refine AWp.seq ?_
              refine AWp.rg hT hA {} (by cbv) (lb rfl) ?_
              refine nT ?_
              refine AWp.block ?_
              obtain ⟨xK223, hxK223, K223, hK223, hkK223⟩ := bindK hsK227
              refine AWp.cutX 4 [1, 7, 8, 9, 10, 12, 24, 25, 26, 31, 32, 33] [] 0 (lb rfl) (fun τ => ∃ v222, K223 v222 = some eK227 ∧ τ = { env := [(1, (.d (.list 2 x2))), (7, (.own 1 v117)), (8, (.d (.int .i64 (A.wrp .i64 (A.zadd v173 1))))), (9, (.d (.int .i64 v186))), (10, (.d (.int .i64 v120))), (12, (.own 3 v222)), (24, (.d (.list 1 x1))), (25, (.d (.int .i64 (A.len x1)))), (26, (.d (.int .i64 v120))), (31, (.d (.list 2 a122))), (32, (.d (.int .i64 (A.len a122)))), (33, (.d (.int .i64 v176)))], heap := [], n := 82 }) ?_ ?_
              · skip
                refine AWp.iter hxK223 [1, 7, 8, 9, 10, 12, 13, 24, 25, 26, 31, 32, 33, 57, 58, 59] [] 0 (lb rfl) (fun (v207, v208) => { env := [(1, (.d (.list 2 x2))), (7, (.own 1 v117)), (8, (.d (.int .i64 (A.wrp .i64 (A.zadd v173 1))))), (9, (.d (.int .i64 v186))), (10, (.d (.int .i64 v120))), (12, (.own 3 v207)), (13, (.d (.int .i64 v176))), (24, (.d (.list 1 x1))), (25, (.d (.int .i64 (A.len x1)))), (26, (.d (.int .i64 v120))), (31, (.d (.list 2 a122))), (32, (.d (.int .i64 (A.len a122)))), (33, (.d (.int .i64 v176))), (57, (.d (.list 2 x2))), (58, (.d (.int .i64 (A.len x2)))), (59, (.d (.int .i64 v208)))], heap := [], n := 82 }) ⟨rfl, (by cbv)⟩ ?_
                rintro ⟨v207, v208⟩ eK223 hsK223
                dsimp only [E45L0] at hsK223
                refine AWp.seq ?_
                refine AWp.rg hT hA {} (by cbv) (lb rfl) ?_
                refine nT ?_
                refine AWp.seq ?_
                rcases tf (A.zlt v208 (A.len x2)) with c209 | c209
                · replace hsK223 := cT c209 hsK223
                  refine AWp.cdT rfl (by first | rfl | simp only [c209, Bool.not_true, Bool.not_false, cond_true, cond_false]) ?_
                  refine AWp.skip ?_
                  refine nT ?_
                  refine AWp.seq ?_
                  refine AWp.block ?_
                  refine AWp.seq ?_
                  obtain ⟨⟨a210, a211⟩, e212, hsK223⟩ := bindS hsK223
                  obtain ⟨f213, f214⟩ := gtI e212
                  refine AWp.rg hT hA { tk := [62] } (by (repeat (cbv; simp only [c209, f213, f214])); first | done | cbv) (lb rfl) ?_
                  refine nT ?_
                  refine AWp.seq ?_
                  refine AWp.rg hT hA {} (by (repeat (cbv; simp only [c209])); first | done | cbv) (lb rfl) ?_
                  refine nT ?_
                  obtain ⟨v220, hvK221, hsK223⟩ := bindS hsK223
                  refine AWp.cutN [1, 7, 8, 9, 10, 12, 13, 24, 25, 26, 31, 32, 33, 57, 58, 59] [] 0 (lb rfl) (fun τ => τ = { env := [(1, (.d (.list 2 x2))), (7, (.own 1 v117)), (8, (.d (.int .i64 (A.wrp .i64 (A.zadd v173 1))))), (9, (.d (.int .i64 v186))), (10, (.d (.int .i64 v120))), (12, (.own 3 v220)), (13, (.d (.int .i64 v176))), (24, (.d (.list 1 x1))), (25, (.d (.int .i64 (A.len x1)))), (26, (.d (.int .i64 v120))), (31, (.d (.list 2 a122))), (32, (.d (.int .i64 (A.len a122)))), (33, (.d (.int .i64 v176))), (57, (.d (.list 2 x2))), (58, (.d (.int .i64 (A.len x2)))), (59, (.d (.int .i64 v208)))], heap := [], n := 82 }) ?_ ?_
                  · skip
                    rcases tf (A.deq [(.int .i64 a210), (.int .i64 a211)] [(.int .i64 v120), (.int .i64 v176)]) with c215 | c215
                    · replace hvK221 := cT c215 hvK221
                      refine AWp.cdT rfl (by first | rfl | simp only [c209, c215, Bool.not_true, Bool.not_false, cond_true, cond_false]) ?_
                      obtain ⟨l216, e217, hvK221⟩ := bindS hvK221
                      obtain ⟨f218, f219⟩ := apI e217
                      refine AWp.rg hT hA { tk := [12, 71] } (by (repeat (cbv; simp only [c209, c215, f218, f219])); first | done | cbv) (lb rfl) ?_
                      cases soI hvK221
                      exact oNi ⟨rfl, (by first | (cbv; done) | ((repeat (cbv; simp only [c209, c215])); first | done | cbv))⟩
                    · replace hvK221 := cF c215 hvK221
                      refine AWp.cdF rfl (by first | rfl | simp only [c209, c215, Bool.not_true, Bool.not_false, cond_true, cond_false]) ?_
                      refine AWp.skip ?_
                      cases soI hvK221
                      exact oNi ⟨rfl, (by first | (cbv; done) | ((repeat (cbv; simp only [c209, c215])); first | done | cbv))⟩
                  · rintro _ rfl
                    refine nB ?_
                    refine nT ?_
                    refine AWp.rg hT hA {} (by cbv) (lb rfl) ?_
                    exact nT ⟨_, (soI hsK223).symm, rfl, (by cbv)⟩
                · replace hsK223 := cF c209 hsK223
                  refine AWp.cdF rfl (by first | rfl | simp only [c209, Bool.not_true, Bool.not_false, cond_true, cond_false]) ?_
                  refine AWp.exit ?_
                  refine xT ?_
                  refine xT ?_
                  refine exL hsK223 fun hx => ?_
                  subst hx
                  exact oxI ⟨rfl, _, hkK223, (by first | (cbv; done) | ((repeat (cbv; simp only [c209])); first | done | cbv))⟩
              · rintro _ ⟨v222, hkK223, rfl⟩
                have hsK227 := (hK223 _ hkK223)
                refine xB ?_
                refine nB ?_
                refine nT ?_
                refine AWp.rg hT hA {} (by cbv) (lb rfl) ?_
                exact nT ⟨_, (soI hsK227).symm, rfl, (by cbv)⟩
          · replace hsK227 := cF c177 hsK227
            refine AWp.cdF rfl (by first | rfl | simp only [c177, Bool.not_true, Bool.not_false, cond_true, cond_false]) ?_
            refine AWp.exit ?_
            refine xT ?_
            refine xT ?_
            refine exL hsK227 fun hx => ?_
            subst hx
            exact oxI ⟨rfl, _, _, _, hkK227, (by first | (cbv; done) | ((repeat (cbv; simp only [c177])); first | done | cbv))⟩
        · rintro _ ⟨v224, v225, v226, hkK227, rfl⟩
          have hsK234 := (hK227 _ hkK227)
          refine xB ?_
          refine nT ?_
          obtain ⟨l228, e229, hsK234⟩ := bindS hsK234
          obtain ⟨f230, f231⟩ := apI e229
          refine AWp.rg hT hA { tk := [7, 77] } (by (repeat (cbv; simp only [f230, f231])); first | done | cbv) (lb rfl) ?_
          refine nB ?_
          refine nT ?_
          refine AWp.rg hT hA {} (by cbv) (lb rfl) ?_
          exact nT ⟨_, (soI hsK234).symm, rfl, (by cbv)⟩
      · replace hsK234 := cF c121 hsK234
        refine AWp.cdF rfl (by first | rfl | simp only [c121, Bool.not_true, Bool.not_false, cond_true, cond_false]) ?_
        refine AWp.exit ?_
        refine xT ?_
        refine xT ?_
        refine exL hsK234 fun hx => ?_
        subst hx
        exact oxI ⟨rfl, _, _, hkK234, (by first | (cbv; done) | ((repeat (cbv; simp only [c121])); first | done | cbv))⟩
    · rintro _ ⟨v232, v233, hkK234, rfl⟩
      have h := (hK234 _ hkK234)
      refine xB ?_
      refine nT ?_
      refine AWp.seq ?_
      refine AWp.seq ?_
      refine AWp.rg hT hA {} (by cbv) (lb rfl) ?_
      refine nT ?_
      rcases tf (A.zlt 8 v233) with c235 | c235
      · replace h := cT c235 h
        refine AWp.cdT rfl (by first | rfl | simp only [c235, Bool.not_true, Bool.not_false, cond_true, cond_false]) ?_
        refine AWp.seq ?_
        refine AWp.rg hT hA {} (by (repeat (cbv; simp only [c235])); first | done | cbv) (lb rfl) ?_
        refine nT ?_
        refine AWp.ret ?_
        refine rT ?_
        cases soI h
        exact ⟨rfl, rfl, rfl, lb rfl, _, rfl⟩
      · replace h := cF c235 h
        refine AWp.cdF rfl (by first | rfl | simp only [c235, Bool.not_true, Bool.not_false, cond_true, cond_false]) ?_
        refine AWp.skip ?_
        refine nT ?_
        refine AWp.seq ?_
        refine AWp.rg hT hA {} (by (repeat (cbv; simp only [c235])); first | done | cbv) (lb rfl) ?_
        refine nT ?_
        refine AWp.ret ?_
        cases soI h
        exact ⟨rfl, rfl, rfl, lb rfl, _, rfl⟩
  · replace h := cF c5 h
    refine AWp.cdT rfl (by first | rfl | simp only [c5, Bool.not_true, Bool.not_false, cond_true, cond_false]) ?_
    refine AWp.seq ?_
    refine AWp.rg hT hA {} (by (repeat (cbv; simp only [c5])); first | done | cbv) (lb rfl) ?_
    refine nT ?_
    refine AWp.ret ?_
    refine rT ?_
    cases soI h
    exact ⟨rfl, rfl, rfl, lb rfl, _, rfl⟩

theorem E46w {A : Ar} (hA : A = Ar.std) {x1 : List D} {x2 : List D} {v86 : Bool} (h : E46 A x1 x2 = some v86) : ACall Try.prog 46 [(.d (.list 1 x1)), (.d (.list 1 x2))] [] (.d (.bool v86)) [] := by
  unfold E46 at h
  refine ACall.enter hT (fn := Try.f46) Try.func46 rfl (by decide) (by simp [Try.f46]) rfl rfl rfl rfl (lb rfl) ?_
  refine AWp.seq ?_
  refine AWp.rg hT hA {} (by cbv) (lb rfl) ?_
  refine nT ?_
  refine AWp.seq ?_
  refine AWp.seq ?_
  refine AWp.rg hT hA {} (by cbv) (lb rfl) ?_
  refine nT ?_
  rcases tf (A.zeq (A.len x1) (A.len x2)) with c3 | c3
  · replace h := cT c3 h
    refine AWp.cdF rfl (by first | rfl | simp only [c3, Bool.not_true, Bool.not_false, cond_true, cond_false]) ?_
    refine AWp.skip ?_
    refine nT ?_
    refine AWp.seq ?_
    refine AWp.seq ?_
    refine AWp.rg hT hA {} (by (repeat (cbv; simp only [c3])); first | done | cbv) (lb rfl) ?_
    refine nT ?_
    refine AWp.block ?_
    obtain ⟨xK85, hxK85, K85, hK85, hkK85⟩ := bindK h
    refine AWp.cutX 0 [] [] 0 (lb rfl) (fun τ => K85 (.inl ()) = some v86 ∧ τ = { env := [], heap := [], n := 53 }) ?_ ?_
    · skip
      refine AWp.iter hxK85 [0, 1, 13, 14] [] 0 (lb rfl) (fun v44 => { env := [(0, (.d (.list 1 x1))), (1, (.d (.list 1 x2))), (13, (.d (.int .i64 (A.len x1)))), (14, (.d (.int .i64 v44)))], heap := [], n := 53 }) ⟨rfl, (by first | (cbv; done) | ((repeat (cbv; simp only [c3])); first | done | cbv))⟩ ?_
      rintro v44 eK85 hsK85
      dsimp only [E46L1] at hsK85
      refine AWp.seq ?_
      refine AWp.rg hT hA {} (by cbv) (lb rfl) ?_
      refine nT ?_
      refine AWp.seq ?_
      rcases tf (A.zlt v44 (A.len x1)) with c45 | c45
      · replace hsK85 := cT c45 hsK85
        refine AWp.cdT rfl (by first | rfl | simp only [c45, Bool.not_true, Bool.not_false, cond_true, cond_false]) ?_
        refine AWp.skip ?_
        refine nT ?_
        refine AWp.seq ?_
        refine AWp.block ?_
        refine AWp.seq ?_
        refine AWp.rg hT hA {} (by (repeat (cbv; simp only [c45])); first | done | cbv) (lb rfl) ?_
        refine nT ?_
        refine AWp.seq ?_
        refine AWp.seq ?_
        obtain ⟨a46, e47, hsK85⟩ := bindS hsK85
        obtain ⟨f48, f49⟩ := gtI e47
        obtain ⟨a50, e51, hsK85⟩ := bindS hsK85
        obtain ⟨f52, f53⟩ := gtI e51
        refine AWp.rd hT hA {} rfl (by (repeat (cbv; simp only [c45, f48, f49, f52, f53])); first | done | cbv) (by kernel_rfl) (lb rfl) ?_
        refine nT ?_
        rcases tf (A.zeq (A.len a46) (A.len a50)) with c54 | c54
        · replace hsK85 := cT c54 hsK85
          refine AWp.cdF rfl (by first | rfl | simp only [c45, c54, Bool.not_true, Bool.not_false, cond_true, cond_false]) ?_
          refine AWp.skip ?_
          refine nT ?_
          refine AWp.seq ?_
          refine AWp.rg hT hA {} (by (repeat (cbv; simp only [c45, c54, f48, f49])); first | done | cbv) (lb rfl) ?_
          refine nT ?_
          refine AWp.block ?_
          obtain ⟨xK84, hxK84, K84, hK84, hkK84⟩ := bindK hsK85
          refine AWp.cutX 2 [0, 1, 13, 14] [] 0 (lb rfl) (fun τ => K84 (.inl ()) = some eK85 ∧ τ = { env := [(0, (.d (.list 1 x1))), (1, (.d (.list 1 x2))), (13, (.d (.int .i64 (A.len x1)))), (14, (.d (.int .i64 v44)))], heap := [], n := 53 }) ?_ ?_
          · skip
            refine AWp.iter hxK84 [0, 1, 5, 13, 14, 32, 33] [] 0 (lb rfl) (fun v69 => { env := [(0, (.d (.list 1 x1))), (1, (.d (.list 1 x2))), (5, (.d (.int .i64 v44))), (13, (.d (.int .i64 (A.len x1)))), (14, (.d (.int .i64 v44))), (32, (.d (.int .i64 (A.len a46)))), (33, (.d (.int .i64 v69)))], heap := [], n := 53 }) ⟨rfl, (by first | (cbv; done) | ((repeat (cbv; simp only [c45, c54])); first | done | cbv))⟩ ?_
            rintro v69 eK84 hsK84
            dsimp only [E46L0] at hsK84
            refine AWp.seq ?_
            refine AWp.rg hT hA {} (by cbv) (lb rfl) ?_
            refine nT ?_
            refine AWp.seq ?_
            rcases tf (A.zlt v69 (A.len a46)) with c70 | c70
            · replace hsK84 := cT c70 hsK84
              refine AWp.cdT rfl (by first | rfl | simp only [c70, Bool.not_true, Bool.not_false, cond_true, cond_false]) ?_
              refine AWp.skip ?_
              refine nT ?_
              refine AWp.seq ?_
              refine AWp.block ?_
              refine AWp.seq ?_
              refine AWp.rg hT hA {} (by (repeat (cbv; simp only [c70])); first | done | cbv) (lb rfl) ?_
              refine nT ?_
              refine AWp.seq ?_
              obtain ⟨⟨a71, a72, a73⟩, e74, hsK84⟩ := bindS hsK84
              obtain ⟨f75, f76⟩ := gtI e74
              obtain ⟨⟨a77, a78, a79⟩, e80, hsK84⟩ := bindS hsK84
              obtain ⟨f81, f82⟩ := gtI e80
              refine AWp.rd hT hA {} rfl (by (repeat (cbv; simp only [c70, f48, f49, f75, f76, f52, f53, f81, f82])); first | done | cbv) (by kernel_rfl) (lb rfl) ?_
              refine nT ?_
              rcases tf (A.deq [(.int .i64 a71), (.int .i64 a72), (.int .i64 a73)] [(.int .i64 a77), (.int .i64 a78), (.int .i64 a79)]) with c83 | c83
              · replace hsK84 := cT c83 hsK84
                refine AWp.cdF rfl (by first | rfl | simp only [c70, c83, Bool.not_true, Bool.not_false, cond_true, cond_false]) ?_
                refine AWp.skip ?_
                refine nB ?_
                refine nT ?_
                refine AWp.rg hT hA {} (by (repeat (cbv; simp only [c70, c83])); first | done | cbv) (lb rfl) ?_
                exact nT ⟨_, (soI hsK84).symm, rfl, (by first | (cbv; done) | ((repeat (cbv; simp only [c70, c83])); first | done | cbv))⟩
              · replace hsK84 := cF c83 hsK84
                refine AWp.cdT rfl (by first | rfl | simp only [c70, c83, Bool.not_true, Bool.not_false, cond_true, cond_false]) ?_
                refine AWp.seq ?_
                refine AWp.rg hT hA {} (by (repeat (cbv; simp only [c70, c83])); first | done | cbv) (lb rfl) ?_
                refine nT ?_
                refine AWp.ret ?_
                refine rB ?_
                refine rT ?_
                refine rT ?_
                refine exL hsK84 fun hx => ?_
                subst hx
                refine oxR ?_
                replace hkK84 := (eR (hK84 _ hkK84))
                refine rB ?_
                refine rB ?_
                refine rT ?_
                refine rT ?_
                refine exL hkK84 fun hx => ?_
                subst hx
                refine oxR ?_
                replace hkK85 := (eR (hK85 _ hkK85))
                refine rB ?_
                refine rT ?_
                cases soI hkK85
                exact ⟨rfl, rfl, rfl, lb rfl, _, rfl⟩
            · replace hsK84 := cF c70 hsK84
              refine AWp.cdF rfl (by first | rfl | simp only [c70, Bool.not_true, Bool.not_false, cond_true, cond_false]) ?_
              refine AWp.exit ?_
              refine xT ?_
              refine xT ?_
              refine exL hsK84 fun hx => ?_
              subst hx
              exact oxI ⟨rfl, hkK84, (by first | (cbv; done) | ((repeat (cbv; simp only [c70])); first | done | cbv))⟩
          · rintro _ ⟨hkK84, rfl⟩
            have hsK85 := (eL (hK84 _ hkK84))
            refine xB ?_
            refine nB ?_
            refine nT ?_
            refine AWp.rg hT hA {} (by cbv) (lb rfl) ?_
            exact nT ⟨_, (soI hsK85).symm, rfl, (by cbv)⟩
        · replace hsK85 := cF c54 hsK85
          refine AWp.cdT rfl (by first | rfl | simp only [c45, c54, Bool.not_true, Bool.not_false, cond_true, cond_false]) ?_
          refine AWp.seq ?_
          refine AWp.rg hT hA {} (by (repeat (cbv; simp only [c45, c54])); first | done | cbv) (lb rfl) ?_
          refine nT ?_
          refine AWp.ret ?_
          refine rT ?_
          refine rB ?_
          refine rT ?_
          refine rT ?_
          refine exL hsK85 fun hx => ?_
          subst hx
          refine oxR ?_
          replace hkK85 := (eR (hK85 _ hkK85))
          refine rB ?_
          refine rT ?_
          cases soI hkK85
          exact ⟨rfl, rfl, rfl, lb rfl, _, rfl⟩
      · replace hsK85 := cF c45 hsK85
        refine AWp.cdF rfl (by first | rfl | simp only [c45, Bool.not_true, Bool.not_false, cond_true, cond_false]) ?_
        refine AWp.exit ?_
        refine xT ?_
        refine xT ?_
        refine exL hsK85 fun hx => ?_
        subst hx
        exact oxI ⟨rfl, hkK85, (by first | (cbv; done) | ((repeat (cbv; simp only [c45])); first | done | cbv))⟩
    · rintro _ ⟨hkK85, rfl⟩
      have h := (eL (hK85 _ hkK85))
      refine xB ?_
      refine nT ?_
      refine AWp.seq ?_
      refine AWp.rg hT hA {} (by cbv) (lb rfl) ?_
      refine nT ?_
      refine AWp.ret ?_
      cases soI h
      exact ⟨rfl, rfl, rfl, lb rfl, _, rfl⟩
  · replace h := cF c3 h
    refine AWp.cdT rfl (by first | rfl | simp only [c3, Bool.not_true, Bool.not_false, cond_true, cond_false]) ?_
    refine AWp.seq ?_
    refine AWp.rg hT hA {} (by (repeat (cbv; simp only [c3])); first | done | cbv) (lb rfl) ?_
    refine nT ?_
    refine AWp.ret ?_
    refine rT ?_
    cases soI h
    exact ⟨rfl, rfl, rfl, lb rfl, _, rfl⟩

theorem E47w {A : Ar} (hA : A = Ar.std) {x1 : List D} {v75 : List D} {v76 : Int} (h : E47 A x1 = some (v75, v76)) : ACall Try.prog 47 [(.d (.list 1 x1))] [] (.tuple [(.d (.list 1 v75)), (.d (.int .i64 v76))]) [] := by
  unfold E47 at h
  refine ACall.enter hT (fn := Try.f47) Try.func47 rfl (by decide) (by simp [Try.f47]) rfl rfl rfl rfl (lb rfl) ?_
  refine AWp.seq ?_
  refine AWp.rg hT hA {} (by cbv) (lb rfl) ?_
  refine nT ?_
  refine AWp.seq ?_
  refine AWp.seq ?_
  refine AWp.region ?_
  obtain ⟨r3, e2, h⟩ := bindS h
  refine AOps.cc hT hA {} (by cbv) (lb rfl) (E14w hA e2) rfl (.inl rfl) rfl rfl rfl (lb rfl) rfl rfl ?_
  refine AOps.cd hT hA {} (by cbv) (lb rfl) ?_
  refine nT ?_
  rcases tf r3 with c4 | c4
  · replace h := cT c4 h
    refine AWp.cdF rfl (by first | rfl | simp only [c4, Bool.not_true, Bool.not_false, cond_true, cond_false]) ?_
    refine AWp.skip ?_
    refine nT ?_
    refine AWp.seq ?_
    refine AWp.rg hT hA {} (by (repeat (cbv; simp only [c4])); first | done | cbv) (lb rfl) ?_
    refine nT ?_
    refine AWp.seq ?_
    refine AWp.seq ?_
    refine AWp.rg hT hA {} (by (repeat (cbv; simp only [c4])); first | done | cbv) (lb rfl) ?_
    refine nT ?_
    refine AWp.block ?_
    obtain ⟨xK74, hxK74, K74, hK74, hkK74⟩ := bindK h
    refine AWp.cutX 0 [4] [] 0 (lb rfl) (fun τ => ∃ v73, K74 v73 = some (v75, v76) ∧ τ = { env := [(4, (.own 1 v73))], heap := [], n := 38 }) ?_ ?_
    · skip
      refine AWp.iter hxK74 [4, 12, 13, 14] [] 0 (lb rfl) (fun (v38, v39) => { env := [(4, (.own 1 v38)), (12, (.d (.list 1 x1))), (13, (.d (.int .i64 (A.len x1)))), (14, (.d (.int .i64 v39)))], heap := [], n := 38 }) ⟨rfl, (by first | (cbv; done) | ((repeat (cbv; simp only [c4])); first | done | cbv))⟩ ?_
      rintro ⟨v38, v39⟩ eK74 hsK74
      dsimp only [E47L1] at hsK74
      refine AWp.seq ?_
      refine AWp.rg hT hA {} (by cbv) (lb rfl) ?_
      refine nT ?_
      refine AWp.seq ?_
      rcases tf (A.zlt v39 (A.len x1)) with c40 | c40
      · replace hsK74 := cT c40 hsK74
        refine AWp.cdT rfl (by first | rfl | simp only [c40, Bool.not_true, Bool.not_false, cond_true, cond_false]) ?_
        refine AWp.skip ?_
        refine nT ?_
        refine AWp.seq ?_
        refine AWp.block ?_
        refine AWp.seq ?_
        obtain ⟨a41, e42, hsK74⟩ := bindS hsK74
        obtain ⟨f43, f44⟩ := gtI e42
        refine AWp.rg hT hA {} (by (repeat (cbv; simp only [c40, f43, f44])); first | done | cbv) (lb rfl) ?_
        refine nT ?_
        refine AWp.seq ?_
        refine AWp.rg hT hA {} (by (repeat (cbv; simp only [c40])); first | done | cbv) (lb rfl) ?_
        refine nT ?_
        refine AWp.seq ?_
        refine AWp.seq ?_
        refine AWp.rg hT hA {} (by (repeat (cbv; simp only [c40])); first | done | cbv) (lb rfl) ?_
        refine nT ?_
        refine AWp.block ?_
        obtain ⟨xK68, hxK68, K68, hK68, hkK68⟩ := bindK hsK74
        refine AWp.cutX 2 [4, 7, 12, 13, 14] [] 0 (lb rfl) (fun τ => ∃ v67, K68 v67 = some eK74 ∧ τ = { env := [(4, (.own 1 v38)), (7, (.own 2 v67)), (12, (.d (.list 1 x1))), (13, (.d (.int .i64 (A.len x1)))), (14, (.d (.int .i64 v39)))], heap := [], n := 38 }) ?_ ?_
        · skip
          refine AWp.iter hxK68 [4, 6, 7, 8, 12, 13, 14] [] 0 (lb rfl) (fun (v55, v56) => { env := [(4, (.own 1 v38)), (6, (.d (.list 2 a41))), (7, (.own 2 v55)), (8, (.d (.int .i64 v56))), (12, (.d (.list 1 x1))), (13, (.d (.int .i64 (A.len x1)))), (14, (.d (.int .i64 v39)))], heap := [], n := 38 }) ⟨rfl, (by first | (cbv; done) | ((repeat (cbv; simp only [c40])); first | done | cbv))⟩ ?_
          rintro ⟨v55, v56⟩ eK68 hsK68
          dsimp only [E47L0] at hsK68
          refine AWp.seq ?_
          refine AWp.seq ?_
          refine AWp.rg hT hA {} (by cbv) (lb rfl) ?_
          refine nT ?_
          rcases tf (A.zle 0 v56) with c57 | c57
          · replace hsK68 := cT c57 hsK68
            refine AWp.cdT rfl (by first | rfl | simp only [c57, Bool.not_true, Bool.not_false, cond_true, cond_false]) ?_
            refine AWp.skip ?_
            refine nT ?_
            refine AWp.seq ?_
            refine AWp.block ?_
            obtain ⟨⟨a58, a59⟩, e60, hsK68⟩ := bindS hsK68
            obtain ⟨f61, f62⟩ := gtI e60
            obtain ⟨l63, e64, hsK68⟩ := bindS hsK68
            obtain ⟨f65, f66⟩ := apI e64
            refine AWp.rg hT hA { tk := [7, 31] } (by (repeat (cbv; simp only [c57, f61, f62, f65, f66])); first | done | cbv) (lb rfl) ?_
            refine nB ?_
            refine nT ?_
            refine AWp.rg hT hA {} (by (repeat (cbv; simp only [c57])); first | done | cbv) (lb rfl) ?_
            exact nT ⟨_, (soI hsK68).symm, rfl, (by first | (cbv; done) | ((repeat (cbv; simp only [c57])); first | done | cbv))⟩
          · replace hsK68 := cF c57 hsK68
            refine AWp.cdF rfl (by first | rfl | simp only [c57, Bool.not_true, Bool.not_false, cond_true, cond_false]) ?_
            refine AWp.exit ?_
            refine xT ?_
            refine xT ?_
            refine exL hsK68 fun hx => ?_
            subst hx
            exact oxI ⟨rfl, _, hkK68, (by first | (cbv; done) | ((repeat (cbv; simp only [c57])); first | done | cbv))⟩
        · rintro _ ⟨v67, hkK68, rfl⟩
          have hsK74 := (hK68 _ hkK68)
          refine xB ?_
          refine nT ?_
          obtain ⟨l69, e70, hsK74⟩ := bindS hsK74
          obtain ⟨f71, f72⟩ := apI e70
          refine AWp.rg hT hA { tk := [4, 35] } (by (repeat (cbv; simp only [f71, f72])); first | done | cbv) (lb rfl) ?_
          refine nB ?_
          refine nT ?_
          refine AWp.rg hT hA {} (by cbv) (lb rfl) ?_
          exact nT ⟨_, (soI hsK74).symm, rfl, (by cbv)⟩
      · replace hsK74 := cF c40 hsK74
        refine AWp.cdF rfl (by first | rfl | simp only [c40, Bool.not_true, Bool.not_false, cond_true, cond_false]) ?_
        refine AWp.exit ?_
        refine xT ?_
        refine xT ?_
        refine exL hsK74 fun hx => ?_
        subst hx
        exact oxI ⟨rfl, _, hkK74, (by first | (cbv; done) | ((repeat (cbv; simp only [c40])); first | done | cbv))⟩
    · rintro _ ⟨v73, hkK74, rfl⟩
      have h := (hK74 _ hkK74)
      refine xB ?_
      refine nT ?_
      refine AWp.seq ?_
      refine AWp.rg hT hA {} (by cbv) (lb rfl) ?_
      refine nT ?_
      refine AWp.ret ?_
      cases soI h
      exact ⟨rfl, rfl, rfl, lb rfl, _, rfl⟩
  · replace h := cF c4 h
    refine AWp.cdT rfl (by first | rfl | simp only [c4, Bool.not_true, Bool.not_false, cond_true, cond_false]) ?_
    refine AWp.seq ?_
    refine AWp.rg hT hA {} (by (repeat (cbv; simp only [c4])); first | done | cbv) (lb rfl) ?_
    refine nT ?_
    refine AWp.ret ?_
    refine rT ?_
    cases soI h
    exact ⟨rfl, rfl, rfl, lb rfl, _, rfl⟩

theorem E49w {A : Ar} (hA : A = Ar.std) {x1 : List D} {x2 : List D} {v47 : List D} {v48 : Int} (h : E49 A x1 x2 = some (v47, v48)) : ACall Try.prog 49 [(.d (.list 1 x1)), (.d (.list 1 x2))] [] (.tuple [(.d (.list 1 v47)), (.d (.int .i64 v48))]) [] := by
  unfold E49 at h
  refine ACall.enter hT (fn := Try.f49) Try.func49 rfl (by decide) (by simp [Try.f49]) rfl rfl rfl rfl (lb rfl) ?_
  refine AWp.seq ?_
  refine AWp.rg hT hA {} (by cbv) (lb rfl) ?_
  refine nT ?_
  refine AWp.seq ?_
  refine AWp.seq ?_
  refine AWp.region ?_
  obtain ⟨r4, e3, h⟩ := bindS h
  refine AOps.cc hT hA {} (by cbv) (lb rfl) (E14w hA e3) rfl (.inl rfl) rfl rfl rfl (lb rfl) rfl rfl ?_
  refine AOps.cd hT hA {} (by cbv) (lb rfl) ?_
  refine nT ?_
  rcases tf r4 with c5 | c5
  · replace h := cT c5 h
    refine AWp.cdF rfl (by first | rfl | simp only [c5, Bool.not_true, Bool.not_false, cond_true, cond_false]) ?_
    refine AWp.skip ?_
    refine nT ?_
    refine AWp.seq ?_
    refine AWp.seq ?_
    refine AWp.region ?_
    obtain ⟨r7, e6, h⟩ := bindS h
    refine AOps.cc hT hA {} (by (repeat (cbv; simp only [c5])); first | done | cbv) (lb rfl) (E51w hA e6) rfl (.inl rfl) rfl rfl rfl (lb rfl) rfl rfl ?_
    refine AOps.cd hT hA {} (by (repeat (cbv; simp only [c5])); first | done | cbv) (lb rfl) ?_
    refine nT ?_
    rcases tf r7 with c8 | c8
    · replace h := cT c8 h
      refine AWp.cdF rfl (by first | rfl | simp only [c5, c8, Bool.not_true, Bool.not_false, cond_true, cond_false]) ?_
      refine AWp.skip ?_
      refine nT ?_
      refine AWp.seq ?_
      refine AWp.rg hT hA {} (by (repeat (cbv; simp only [c5, c8])); first | done | cbv) (lb rfl) ?_
      refine nT ?_
      refine AWp.seq ?_
      refine AWp.seq ?_
      refine AWp.rg hT hA {} (by (repeat (cbv; simp only [c5, c8])); first | done | cbv) (lb rfl) ?_
      refine nT ?_
      refine AWp.block ?_
      obtain ⟨xK46, hxK46, K46, hK46, hkK46⟩ := bindK h
      refine AWp.cutX 0 [6] [] 0 (lb rfl) (fun τ => ∃ v45, K46 v45 = some (v47, v48) ∧ τ = { env := [(6, (.own 1 v45))], heap := [], n := 34 }) ?_ ?_
      · skip
        refine AWp.iter hxK46 [0, 6, 17, 18, 19] [] 0 (lb rfl) (fun (v26, v27) => { env := [(0, (.d (.list 1 x1))), (6, (.own 1 v26)), (17, (.d (.list 1 x2))), (18, (.d (.int .i64 (A.len x2)))), (19, (.d (.int .i64 v27)))], heap := [], n := 34 }) ⟨rfl, (by first | (cbv; done) | ((repeat (cbv; simp only [c5, c8])); first | done | cbv))⟩ ?_
        rintro ⟨v26, v27⟩ eK46 hsK46
        dsimp only [E49L0] at hsK46
        refine AWp.seq ?_
        refine AWp.rg hT hA {} (by cbv) (lb rfl) ?_
        refine nT ?_
        refine AWp.seq ?_
        rcases tf (A.zlt v27 (A.len x2)) with c28 | c28
        · replace hsK46 := cT c28 hsK46
          refine AWp.cdT rfl (by first | rfl | simp only [c28, Bool.not_true, Bool.not_false, cond_true, cond_false]) ?_
          refine AWp.skip ?_
          refine nT ?_
          refine AWp.seq ?_
          refine AWp.block ?_
          refine AWp.seq ?_
          obtain ⟨a29, e30, hsK46⟩ := bindS hsK46
          obtain ⟨f31, f32⟩ := gtI e30
          refine AWp.rg hT hA {} (by (repeat (cbv; simp only [c28, f31, f32])); first | done | cbv) (lb rfl) ?_
          refine nT ?_
          obtain ⟨a33, e34, hsK46⟩ := bindS hsK46
          obtain ⟨f35, f36⟩ := gtI e34
          obtain ⟨l37, e38, hsK46⟩ := bindS hsK46
          obtain ⟨f39, f40⟩ := apI e38
          obtain ⟨l41, e42, hsK46⟩ := bindS hsK46
          obtain ⟨f43, f44⟩ := apI e42
          refine AWp.rg hT hA { tk := [6, 31] } (by (repeat (cbv; simp only [c28, f35, f36, f39, f40, f43, f44])); first | done | cbv) (lb rfl) ?_
          refine nB ?_
          refine nT ?_
          refine AWp.rg hT hA {} (by (repeat (cbv; simp only [c28])); first | done | cbv) (lb rfl) ?_
          exact nT ⟨_, (soI hsK46).symm, rfl, (by first | (cbv; done) | ((repeat (cbv; simp only [c28])); first | done | cbv))⟩
        · replace hsK46 := cF c28 hsK46
          refine AWp.cdF rfl (by first | rfl | simp only [c28, Bool.not_true, Bool.not_false, cond_true, cond_false]) ?_
          refine AWp.exit ?_
          refine xT ?_
          refine xT ?_
          refine exL hsK46 fun hx => ?_
          subst hx
          exact oxI ⟨rfl, _, hkK46, (by first | (cbv; done) | ((repeat (cbv; simp only [c28])); first | done | cbv))⟩
      · rintro _ ⟨v45, hkK46, rfl⟩
        have h := (hK46 _ hkK46)
        refine xB ?_
        refine nT ?_
        refine AWp.seq ?_
        refine AWp.rg hT hA {} (by cbv) (lb rfl) ?_
        refine nT ?_
        refine AWp.ret ?_
        cases soI h
        exact ⟨rfl, rfl, rfl, lb rfl, _, rfl⟩
    · replace h := cF c8 h
      refine AWp.cdT rfl (by first | rfl | simp only [c5, c8, Bool.not_true, Bool.not_false, cond_true, cond_false]) ?_
      refine AWp.seq ?_
      refine AWp.rg hT hA {} (by (repeat (cbv; simp only [c5, c8])); first | done | cbv) (lb rfl) ?_
      refine nT ?_
      refine AWp.ret ?_
      refine rT ?_
      cases soI h
      exact ⟨rfl, rfl, rfl, lb rfl, _, rfl⟩
  · replace h := cF c5 h
    refine AWp.cdT rfl (by first | rfl | simp only [c5, Bool.not_true, Bool.not_false, cond_true, cond_false]) ?_
    refine AWp.seq ?_
    refine AWp.rg hT hA {} (by (repeat (cbv; simp only [c5])); first | done | cbv) (lb rfl) ?_
    refine nT ?_
    refine AWp.ret ?_
    refine rT ?_
    cases soI h
    exact ⟨rfl, rfl, rfl, lb rfl, _, rfl⟩

theorem E9w {A : Ar} (hA : A = Ar.std) {x1 : List D} {x2 : List D} {x3 : List D} {v51 : Bool} (h : E9 A x1 x2 x3 = some v51) : ACall Try.prog 9 [(.d (.list 1 x1)), (.d (.list 2 x2)), (.d (.list 1 x3))] [] (.d (.bool v51)) [] := by
  unfold E9 at h
  refine ACall.enter hT (fn := Try.f9) Try.func9 rfl (by decide) (by simp [Try.f9]) rfl rfl rfl rfl (lb rfl) ?_
  refine AWp.seq ?_
  refine AWp.rg hT hA {} (by cbv) (lb rfl) ?_
  refine nT ?_
  refine AWp.seq ?_
  refine AWp.seq ?_
  obtain ⟨v8, hvK9, h⟩ := bindS h
  refine AWp.cutN [0, 1, 2, 24] [] 0 (lb rfl) (fun τ => τ = { env := [(0, (.d (.list 1 x1))), (1, (.d (.list 2 x2))), (2, (.d (.list 1 x3))), (24, (.d (.bool v8)))], heap := [], n := 89 }) ?_ ?_
  · skip
    refine AWp.region ?_
    obtain ⟨r5, e4, hvK9⟩ := bindS hvK9
    refine AOps.cc hT hA {} (by cbv) (lb rfl) (E13w hA e4) rfl (.inl rfl) rfl rfl rfl (lb rfl) rfl rfl ?_
    rcases tf r5 with c6 | c6
    · replace hvK9 := cT c6 hvK9
      refine AOps.cd hT hA {} (by (repeat (cbv; simp only [c6])); first | done | cbv) (lb rfl) ?_
      cases soI hvK9
      exact oNi ⟨rfl, (by first | (cbv; done) | ((repeat (cbv; simp only [c6])); first | done | cbv))⟩
    · replace hvK9 := cF c6 hvK9
      rcases tf (A.zlt 40 (A.len x2)) with c7 | c7
      · replace hvK9 := cT c7 hvK9
        refine AOps.cd hT hA {} (by (repeat (cbv; simp only [c6, c7])); first | done | cbv) (lb rfl) ?_
        cases soI hvK9
        exact oNi ⟨rfl, (by first | (cbv; done) | ((repeat (cbv; simp only [c6, c7])); first | done | cbv))⟩
      · replace hvK9 := cF c7 hvK9
        refine AOps.cd hT hA {} (by (repeat (cbv; simp only [c6, c7])); first | done | cbv) (lb rfl) ?_
        cases soI hvK9
        exact oNi ⟨rfl, (by first | (cbv; done) | ((repeat (cbv; simp only [c6, c7])); first | done | cbv))⟩
  · rintro _ rfl
    refine nT ?_
    rcases tf v8 with c10 | c10
    · replace h := cT c10 h
      refine AWp.cdT rfl (by first | rfl | simp only [c10, Bool.not_true, Bool.not_false, cond_true, cond_false]) ?_
      refine AWp.seq ?_
      refine AWp.region ?_
      obtain ⟨r12, e11, h⟩ := bindS h
      refine AOps.cc hT hA { tk := [25] } (by (repeat (cbv; simp only [c10])); first | done | cbv) (lb rfl) (E15w hA e11) rfl (.inl rfl) rfl rfl rfl (lb rfl) rfl rfl ?_
      refine AOps.cd hT hA { tk := [25] } (by (repeat (cbv; simp only [c10])); first | done | cbv) (lb rfl) ?_
      refine nT ?_
      refine AWp.ret ?_
      refine rT ?_
      cases soI h
      exact ⟨rfl, rfl, rfl, lb rfl, _, rfl⟩
    · replace h := cF c10 h
      refine AWp.cdF rfl (by first | rfl | simp only [c10, Bool.not_true, Bool.not_false, cond_true, cond_false]) ?_
      refine AWp.skip ?_
      refine nT ?_
      refine AWp.seq ?_
      refine AWp.region ?_
      obtain ⟨⟨r14, r15⟩, e13, h⟩ := bindS h
      refine AOps.cc hT hA {} (by (repeat (cbv; simp only [c10])); first | done | cbv) (lb rfl) (E44w hA e13) rfl (.inl rfl) rfl rfl rfl (lb rfl) rfl rfl ?_
      refine AOps.cd hT hA {} (by (repeat (cbv; simp only [c10])); first | done | cbv) (lb rfl) ?_
      refine nT ?_
      refine AWp.seq ?_
      refine AWp.region ?_
      obtain ⟨⟨r17, r18⟩, e16, h⟩ := bindS h
      refine AOps.cc hT hA {} (by (repeat (cbv; simp only [c10])); first | done | cbv) (lb rfl) (E45w hA e16) rfl (.inl rfl) rfl rfl rfl (lb rfl) rfl rfl ?_
      refine AOps.cd hT hA {} (by (repeat (cbv; simp only [c10])); first | done | cbv) (lb rfl) ?_
      refine nT ?_
      refine AWp.seq ?_
      refine AWp.seq ?_
      obtain ⟨v22, hvK23, h⟩ := bindS h
      refine AWp.cutN [0, 2, 46] [] 0 (lb rfl) (fun τ => τ = { env := [(0, (.d (.list 1 x1))), (2, (.d (.list 1 x3))), (46, (.d (.bool v22)))], heap := [], n := 89 }) ?_ ?_
      · skip
        refine AWp.region ?_
        obtain ⟨r20, e19, hvK23⟩ := bindS hvK23
        refine AOps.cc hT hA {} (by (repeat (cbv; simp only [c10])); first | done | cbv) (lb rfl) (E46w hA e19) rfl (.inl rfl) rfl rfl rfl (lb rfl) rfl rfl ?_
        rcases tf r20 with c21 | c21
        · replace hvK23 := cT c21 hvK23
          refine AOps.cd hT hA {} (by (repeat (cbv; simp only [c10, c21])); first | done | cbv) (lb rfl) ?_
          cases soI hvK23
          exact oNi ⟨rfl, (by first | (cbv; done) | ((repeat (cbv; simp only [c10, c21])); first | done | cbv))⟩
        · replace hvK23 := cF c21 hvK23
          refine AOps.cd hT hA {} (by (repeat (cbv; simp only [c10, c21])); first | done | cbv) (lb rfl) ?_
          cases soI hvK23
          exact oNi ⟨rfl, (by first | (cbv; done) | ((repeat (cbv; simp only [c10, c21])); first | done | cbv))⟩
      · rintro _ rfl
        refine nT ?_
        rcases tf v22 with c24 | c24
        · replace h := cT c24 h
          refine AWp.cdT rfl (by first | rfl | simp only [c24, Bool.not_true, Bool.not_false, cond_true, cond_false]) ?_
          refine AWp.seq ?_
          refine AWp.rg hT hA {} (by (repeat (cbv; simp only [c24])); first | done | cbv) (lb rfl) ?_
          refine nT ?_
          refine AWp.ret ?_
          refine rT ?_
          cases soI h
          exact ⟨rfl, rfl, rfl, lb rfl, _, rfl⟩
        · replace h := cF c24 h
          refine AWp.cdF rfl (by first | rfl | simp only [c24, Bool.not_true, Bool.not_false, cond_true, cond_false]) ?_
          refine AWp.skip ?_
          refine nT ?_
          refine AWp.seq ?_
          refine AWp.region ?_
          obtain ⟨⟨r26, r27⟩, e25, h⟩ := bindS h
          refine AOps.cc hT hA {} (by (repeat (cbv; simp only [c24])); first | done | cbv) (lb rfl) (E25w hA e25) rfl (.inl rfl) rfl rfl rfl (lb rfl) rfl rfl ?_
          refine AOps.cd hT hA {} (by (repeat (cbv; simp only [c24])); first | done | cbv) (lb rfl) ?_
          refine nT ?_
          refine AWp.seq ?_
          refine AWp.region ?_
          obtain ⟨⟨r29, r30⟩, e28, h⟩ := bindS h
          refine AOps.cc hT hA {} (by (repeat (cbv; simp only [c24])); first | done | cbv) (lb rfl) (E47w hA e28) rfl (.inl rfl) rfl rfl rfl (lb rfl) rfl rfl ?_
          refine AOps.cd hT hA {} (by (repeat (cbv; simp only [c24])); first | done | cbv) (lb rfl) ?_
          refine nT ?_
          refine AWp.seq ?_
          refine AWp.seq ?_
          obtain ⟨v34, hvK35, h⟩ := bindS h
          refine AWp.cutN [0, 2, 65] [] 0 (lb rfl) (fun τ => τ = { env := [(0, (.d (.list 1 x1))), (2, (.d (.list 1 x3))), (65, (.d (.bool v34)))], heap := [], n := 89 }) ?_ ?_
          · skip
            refine AWp.region ?_
            obtain ⟨r32, e31, hvK35⟩ := bindS hvK35
            refine AOps.cc hT hA {} (by (repeat (cbv; simp only [c24])); first | done | cbv) (lb rfl) (E26w hA e31) rfl (.inl rfl) rfl rfl rfl (lb rfl) rfl rfl ?_
            rcases tf r32 with c33 | c33
            · replace hvK35 := cT c33 hvK35
              refine AOps.cd hT hA {} (by (repeat (cbv; simp only [c24, c33])); first | done | cbv) (lb rfl) ?_
              cases soI hvK35
              exact oNi ⟨rfl, (by first | (cbv; done) | ((repeat (cbv; simp only [c24, c33])); first | done | cbv))⟩
            · replace hvK35 := cF c33 hvK35
              refine AOps.cd hT hA {} (by (repeat (cbv; simp only [c24, c33])); first | done | cbv) (lb rfl) ?_
              cases soI hvK35
              exact oNi ⟨rfl, (by first | (cbv; done) | ((repeat (cbv; simp only [c24, c33])); first | done | cbv))⟩
          · rintro _ rfl
            refine nT ?_
            rcases tf v34 with c36 | c36
            · replace h := cT c36 h
              refine AWp.cdT rfl (by first | rfl | simp only [c36, Bool.not_true, Bool.not_false, cond_true, cond_false]) ?_
              refine AWp.seq ?_
              refine AWp.rg hT hA {} (by (repeat (cbv; simp only [c36])); first | done | cbv) (lb rfl) ?_
              refine nT ?_
              refine AWp.ret ?_
              refine rT ?_
              cases soI h
              exact ⟨rfl, rfl, rfl, lb rfl, _, rfl⟩
            · replace h := cF c36 h
              refine AWp.cdF rfl (by first | rfl | simp only [c36, Bool.not_true, Bool.not_false, cond_true, cond_false]) ?_
              refine AWp.skip ?_
              refine nT ?_
              refine AWp.seq ?_
              refine AWp.region ?_
              obtain ⟨⟨r38, r39⟩, e37, h⟩ := bindS h
              refine AOps.cc hT hA {} (by (repeat (cbv; simp only [c36])); first | done | cbv) (lb rfl) (E48w hA e37) rfl (.inl rfl) rfl rfl rfl (lb rfl) rfl rfl ?_
              refine AOps.cd hT hA {} (by (repeat (cbv; simp only [c36])); first | done | cbv) (lb rfl) ?_
              refine nT ?_
              refine AWp.seq ?_
              refine AWp.region ?_
              obtain ⟨⟨r41, r42⟩, e40, h⟩ := bindS h
              refine AOps.cc hT hA {} (by (repeat (cbv; simp only [c36])); first | done | cbv) (lb rfl) (E49w hA e40) rfl (.inl rfl) rfl rfl rfl (lb rfl) rfl rfl ?_
              refine AOps.cd hT hA {} (by (repeat (cbv; simp only [c36])); first | done | cbv) (lb rfl) ?_
              refine nT ?_
              refine AWp.seq ?_
              obtain ⟨v49, hvK50, h⟩ := bindS h
              refine AWp.cutN [6] [] 0 (lb rfl) (fun τ => τ = { env := [(6, (.d (.bool v49)))], heap := [], n := 89 }) ?_ ?_
              · skip
                refine AWp.region ?_
                obtain ⟨r44, e43, hvK50⟩ := bindS hvK50
                refine AOps.cc hT hA { tk := [88] } (by (repeat (cbv; simp only [c36])); first | done | cbv) (lb rfl) (E26w hA e43) rfl (.inl rfl) rfl rfl rfl (lb rfl) rfl rfl ?_
                rcases tf r44 with c45 | c45
                · replace hvK50 := cT c45 hvK50
                  rcases tf (A.zeq r39 r42) with c46 | c46
                  · replace hvK50 := cT c46 hvK50
                    obtain ⟨r48, e47, hvK50⟩ := bindS hvK50
                    refine AOps.cc hT hA { tk := [88] } (by (repeat (cbv; simp only [c36, c45, c46])); first | done | cbv) (lb rfl) (E15w hA e47) rfl (.inl rfl) rfl rfl rfl (lb rfl) rfl rfl ?_
                    refine AOps.cd hT hA { tk := [88] } (by (repeat (cbv; simp only [c36, c45, c46])); first | done | cbv) (lb rfl) ?_
                    cases soI hvK50
                    exact oNi ⟨rfl, (by first | (cbv; done) | ((repeat (cbv; simp only [c36, c45, c46])); first | done | cbv))⟩
                  · replace hvK50 := cF c46 hvK50
                    refine AOps.cd hT hA { tk := [88] } (by (repeat (cbv; simp only [c36, c45, c46])); first | done | cbv) (lb rfl) ?_
                    cases soI hvK50
                    exact oNi ⟨rfl, (by first | (cbv; done) | ((repeat (cbv; simp only [c36, c45, c46])); first | done | cbv))⟩
                · replace hvK50 := cF c45 hvK50
                  refine AOps.cd hT hA { tk := [88] } (by (repeat (cbv; simp only [c36, c45])); first | done | cbv) (lb rfl) ?_
                  cases soI hvK50
                  exact oNi ⟨rfl, (by first | (cbv; done) | ((repeat (cbv; simp only [c36, c45])); first | done | cbv))⟩
              · rintro _ rfl
                refine nT ?_
                refine AWp.ret ?_
                cases soI h
                exact ⟨rfl, rfl, rfl, lb rfl, _, rfl⟩
end Go.Am
