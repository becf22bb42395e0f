/- Own text: Genw1. -/
import Derived.Test.YtcnplegmmmobcaaGenw0
set_option maxRecDepth 100000
set_option maxHeartbeats 2000000
set_option linter.unusedVariables false
set_option linter.unusedSimpArgs false
namespace Go.Am
open Go Go.Proofs
theorem R55w {A : Ar} (hA : A = Ar.std) {x1 : Int} {x2 : List D} {x3 : Int} {v31 : Int} {v32 : List D} {v33 : Int} (h : R55 A x1 x2 x3 = some (v31, v32, v33)) : ACall Try.prog 55 [(.d (.agg [(.int .i64 x1), (.list 3 x2)])), (.d (.int .i64 x3))] [] (.tuple [(.d (.agg [(.int .i64 v31), (.list 3 v32)])), (.d (.int .i64 v33))]) [] := by
  unfold R55 at h
  refine ACall.enter hT (fn := Try.f55) Try.func55 rfl (by decide) (by simp [Try.f55]) rfl rfl rfl rfl (lb rfl) ?_
  refine AWp.seq ?_
  refine AWp.rg hT hA {} (by cbv) (lb rfl) ?_
  refine nT ?_
  refine AWp.seq ?_
  refine AWp.seq ?_
  refine AWp.region ?_
  obtain ⟨r5, e4, h⟩ := bindS h
  refine AOps.cc hT hA {} (by cbv) (lb rfl) (R34w hA e4) rfl (.inl rfl) rfl rfl rfl (lb rfl) rfl rfl ?_
  refine AOps.cd hT hA {} (by cbv) (lb rfl) ?_
  refine nT ?_
  rcases tf r5 with c6 | c6
  · replace h := cT c6 h
    refine AWp.cdF rfl (by first | rfl | simp only [c6, Bool.not_true, Bool.not_false, cond_true, cond_false]) ?_
    refine AWp.skip ?_
    refine nT ?_
    refine AWp.seq ?_
    refine AWp.seq ?_
    obtain ⟨v8, hvK9, h⟩ := bindS h
    refine AWp.cutN [1, 2, 4, 18] [] 0 (lb rfl) (fun τ => τ = { env := [(1, (.d (.int .i64 x3))), (2, (.lbox [(.d (.int .i64 x1)), (.d (.list 3 x2))])), (4, (.lbox [(.d (.int .i64 0)), (.own 3 [])])), (18, (.d (.bool v8)))], heap := [], n := 35 }) ?_ ?_
    · skip
      rcases tf (A.zlt x3 0) with c7 | c7
      · replace hvK9 := cT c7 hvK9
        refine AWp.rg hT hA {} (by (repeat (cbv; simp only [c6, c7])); first | done | cbv) (lb rfl) ?_
        cases soI hvK9
        exact oNi ⟨rfl, (by first | (cbv; done) | ((repeat (cbv; simp only [c6, c7])); first | done | cbv))⟩
      · replace hvK9 := cF c7 hvK9
        refine AWp.rg hT hA {} (by (repeat (cbv; simp only [c6, c7])); first | done | cbv) (lb rfl) ?_
        cases soI hvK9
        exact oNi ⟨rfl, (by first | (cbv; done) | ((repeat (cbv; simp only [c6, c7])); first | done | cbv))⟩
    · rintro _ rfl
      refine nT ?_
      rcases tf v8 with c10 | c10
      · replace h := cT c10 h
        refine AWp.cdT rfl (by first | rfl | simp only [c10, Bool.not_true, Bool.not_false, cond_true, cond_false]) ?_
        refine AWp.seq ?_
        refine AWp.rg hT hA { tk := [19], nl := [19] } (by (repeat (cbv; simp only [c10])); first | done | cbv) (lb rfl) ?_
        refine nT ?_
        refine AWp.ret ?_
        refine rT ?_
        cases soI h
        exact ⟨rfl, rfl, rfl, lb rfl, _, rfl⟩
      · replace h := cF c10 h
        refine AWp.cdF rfl (by first | rfl | simp only [c10, Bool.not_true, Bool.not_false, cond_true, cond_false]) ?_
        refine AWp.skip ?_
        refine nT ?_
        refine AWp.seq ?_
        obtain ⟨l11, e12, h⟩ := bindS h
        obtain ⟨f13, f14, f15, f16⟩ := slI e12
        obtain ⟨l17, e18, h⟩ := bindS h
        obtain ⟨f19, f20⟩ := apI e18
        obtain ⟨l21, e22, h⟩ := bindS h
        obtain ⟨f23, f24, f25, f26⟩ := slI e22
        obtain ⟨l27, e28, h⟩ := bindS h
        obtain ⟨f29, f30⟩ := apI e28
        refine AWp.rd hT hA { tk := [34] } rfl (by (repeat (cbv; simp only [c10, f13, f14, f15, f16, f19, f20, f23, f24, f25, f26, f29, f30])); first | done | cbv) (by kernel_rfl) (lb rfl) ?_
        refine nT ?_
        refine AWp.ret ?_
        cases soI h
        exact ⟨rfl, rfl, rfl, lb rfl, _, rfl⟩
  · replace h := cF c6 h
    refine AWp.cdT rfl (by first | rfl | simp only [c6, Bool.not_true, Bool.not_false, cond_true, cond_false]) ?_
    refine AWp.seq ?_
    refine AWp.rg hT hA { tk := [9], nl := [9] } (by (repeat (cbv; simp only [c6])); first | done | cbv) (lb rfl) ?_
    refine nT ?_
    refine AWp.ret ?_
    refine rT ?_
    cases soI h
    exact ⟨rfl, rfl, rfl, lb rfl, _, rfl⟩

theorem R105w {A : Ar} (hA : A = Ar.std) {x1 : Int} {x2 : List D} {x3 : Int} {x4 : Int} {x5 : Int} {v32 : Bool} (h : R105 A x1 x2 x3 x4 x5 = some v32) : ACall Try.prog 105 [(.d (.agg [(.int .i64 x1), (.list 3 x2)])), (.d (.int .i64 x3)), (.d (.int .i64 x4)), (.d (.int .i64 x5))] [] (.d (.bool v32)) [] := by
  unfold R105 at h
  refine ACall.enter hT (fn := Try.f105) Try.func105 rfl (by decide) (by simp [Try.f105]) rfl rfl rfl rfl (lb rfl) ?_
  refine AWp.seq ?_
  refine AWp.rg hT hA {} (by cbv) (lb rfl) ?_
  refine nT ?_
  refine AWp.seq ?_
  refine AWp.seq ?_
  refine AWp.rg hT hA {} (by cbv) (lb rfl) ?_
  refine nT ?_
  refine AWp.block ?_
  obtain ⟨xK31, hxK31, K31, hK31, hkK31⟩ := bindK h
  refine AWp.cutX 0 [] [] 0 (lb rfl) (fun τ => K31 (.inl ()) = some v32 ∧ τ = { env := [], heap := [], n := 35 }) ?_ ?_
  · skip
    refine AWp.iter hxK31 [1, 2, 3, 12, 13, 14] [] 0 (lb rfl) (fun v18 => { env := [(1, (.d (.int .i64 x3))), (2, (.d (.int .i64 x4))), (3, (.d (.int .i64 x5))), (12, (.d (.list 3 x2))), (13, (.d (.int .i64 (A.len x2)))), (14, (.d (.int .i64 v18)))], heap := [], n := 35 }) ⟨rfl, (by cbv)⟩ ?_
    rintro v18 eK31 hsK31
    dsimp only [R105L0] at hsK31
    refine AWp.seq ?_
    refine AWp.rg hT hA {} (by cbv) (lb rfl) ?_
    refine nT ?_
    refine AWp.seq ?_
    rcases tf (A.zlt v18 (A.len x2)) with c19 | c19
    · replace hsK31 := cT c19 hsK31
      refine AWp.cdT rfl (by first | rfl | simp only [c19, Bool.not_true, Bool.not_false, cond_true, cond_false]) ?_
      refine AWp.skip ?_
      refine nT ?_
      refine AWp.seq ?_
      refine AWp.block ?_
      refine AWp.seq ?_
      obtain ⟨⟨a20, a21, a22⟩, e23, hsK31⟩ := bindS hsK31
      obtain ⟨f24, f25⟩ := gtI e23
      refine AWp.rg hT hA { tk := [17] } (by (repeat (cbv; simp only [c19, f24, f25])); first | done | cbv) (lb rfl) ?_
      refine nT ?_
      refine AWp.seq ?_
      obtain ⟨v28, hvK29, hsK31⟩ := bindS hsK31
      refine AWp.cutN [1, 2, 3, 12, 13, 14, 33] [] 0 (lb rfl) (fun τ => τ = { env := [(1, (.d (.int .i64 x3))), (2, (.d (.int .i64 x4))), (3, (.d (.int .i64 x5))), (12, (.d (.list 3 x2))), (13, (.d (.int .i64 (A.len x2)))), (14, (.d (.int .i64 v18))), (33, (.d (.bool v28)))], heap := [], n := 35 }) ?_ ?_
      · skip
        rcases tf (A.zeq a20 x3) with c26 | c26
        · replace hvK29 := cT c26 hvK29
          rcases tf (A.zeq a21 x4) with c27 | c27
          · replace hvK29 := cT c27 hvK29
            refine AWp.rg hT hA {} (by (repeat (cbv; simp only [c19, c26, c27])); first | done | cbv) (lb rfl) ?_
            cases soI hvK29
            exact oNi ⟨rfl, (by first | (cbv; done) | ((repeat (cbv; simp only [c19, c26, c27])); first | done | cbv))⟩
          · replace hvK29 := cF c27 hvK29
            refine AWp.rg hT hA {} (by (repeat (cbv; simp only [c19, c26, c27])); first | done | cbv) (lb rfl) ?_
            cases soI hvK29
            exact oNi ⟨rfl, (by first | (cbv; done) | ((repeat (cbv; simp only [c19, c26, c27])); first | done | cbv))⟩
        · replace hvK29 := cF c26 hvK29
          refine AWp.rg hT hA {} (by (repeat (cbv; simp only [c19, c26])); first | done | cbv) (lb rfl) ?_
          cases soI hvK29
          exact oNi ⟨rfl, (by first | (cbv; done) | ((repeat (cbv; simp only [c19, c26])); first | done | cbv))⟩
      · rintro _ rfl
        refine nT ?_
        rcases tf v28 with c30 | c30
        · replace hsK31 := cT c30 hsK31
          refine AWp.cdT rfl (by first | rfl | simp only [c30, Bool.not_true, Bool.not_false, cond_true, cond_false]) ?_
          refine AWp.seq ?_
          refine AWp.rg hT hA {} (by (repeat (cbv; simp only [c30])); first | done | cbv) (lb rfl) ?_
          refine nT ?_
          refine AWp.ret ?_
          refine rB ?_
          refine rT ?_
          refine rT ?_
          refine exL hsK31 fun hx => ?_
          subst hx
          refine oxR ?_
          replace hkK31 := (eR (hK31 _ hkK31))
          refine rB ?_
          refine rT ?_
          cases soI hkK31
          exact ⟨rfl, rfl, rfl, lb rfl, _, rfl⟩
        · replace hsK31 := cF c30 hsK31
          refine AWp.cdF rfl (by first | rfl | simp only [c30, Bool.not_true, Bool.not_false, cond_true, cond_false]) ?_
          refine AWp.skip ?_
          refine nB ?_
          refine nT ?_
          refine AWp.rg hT hA {} (by (repeat (cbv; simp only [c30])); first | done | cbv) (lb rfl) ?_
          exact nT ⟨_, (soI hsK31).symm, rfl, (by first | (cbv; done) | ((repeat (cbv; simp only [c30])); first | done | cbv))⟩
    · replace hsK31 := cF c19 hsK31
      refine AWp.cdF rfl (by first | rfl | simp only [c19, Bool.not_true, Bool.not_false, cond_true, cond_false]) ?_
      refine AWp.exit ?_
      refine xT ?_
      refine xT ?_
      refine exL hsK31 fun hx => ?_
      subst hx
      exact oxI ⟨rfl, hkK31, (by first | (cbv; done) | ((repeat (cbv; simp only [c19])); first | done | cbv))⟩
  · rintro _ ⟨hkK31, rfl⟩
    have h := (eL (hK31 _ hkK31))
    refine xB ?_
    refine nT ?_
    refine AWp.seq ?_
    refine AWp.rg hT hA {} (by cbv) (lb rfl) ?_
    refine nT ?_
    refine AWp.ret ?_
    cases soI h
    exact ⟨rfl, rfl, rfl, lb rfl, _, rfl⟩

theorem R57w {A : Ar} (hA : A = Ar.std) {x1 : Int} {x2 : List D} {x3 : Int} {x4 : List D} {v401 : Int} {v402 : List D} {v403 : Int} (h : R57 A x1 x2 x3 x4 = some (v401, v402, v403)) : ACall Try.prog 57 [(.d (.agg [(.int .i64 x1), (.list 3 x2)])), (.d (.agg [(.int .i64 x3), (.list 3 x4)]))] [] (.tuple [(.d (.agg [(.int .i64 v401), (.list 3 v402)])), (.d (.int .i64 v403))]) [] := by
  unfold R57 at h
  refine ACall.enter hT (fn := Try.f57) Try.func57 rfl (by decide) (by simp [Try.f57]) rfl rfl rfl rfl (lb rfl) ?_
  refine AWp.seq ?_
  refine AWp.rg hT hA {} (by cbv) (lb rfl) ?_
  refine nT ?_
  refine AWp.seq ?_
  refine AWp.seq ?_
  obtain ⟨v10, hvK11, h⟩ := bindS h
  refine AWp.cutN [2, 3, 4, 21] [] 0 (lb rfl) (fun τ => τ = { env := [(2, (.lbox [(.d (.int .i64 x1)), (.d (.list 3 x2))])), (3, (.lbox [(.d (.int .i64 x3)), (.d (.list 3 x4))])), (4, (.lbox [(.d (.int .i64 0)), (.own 3 [])])), (21, (.d (.bool v10)))], heap := [], n := 112 }) ?_ ?_
  · skip
    refine AWp.region ?_
    obtain ⟨r6, e5, hvK11⟩ := bindS hvK11
    refine AOps.cc hT hA {} (by cbv) (lb rfl) (R34w hA e5) rfl (.inl rfl) rfl rfl rfl (lb rfl) rfl rfl ?_
    rcases tf r6 with c7 | c7
    · replace hvK11 := cT c7 hvK11
      obtain ⟨r9, e8, hvK11⟩ := bindS hvK11
      refine AOps.cc hT hA {} (by (repeat (cbv; simp only [c7])); first | done | cbv) (lb rfl) (R34w hA e8) rfl (.inl rfl) rfl rfl rfl (lb rfl) rfl rfl ?_
      refine AOps.cd hT hA {} (by (repeat (cbv; simp only [c7])); first | done | cbv) (lb rfl) ?_
      cases soI hvK11
      exact oNi ⟨rfl, (by first | (cbv; done) | ((repeat (cbv; simp only [c7])); first | done | cbv))⟩
    · replace hvK11 := cF c7 hvK11
      refine AOps.cd hT hA {} (by (repeat (cbv; simp only [c7])); first | done | cbv) (lb rfl) ?_
      cases soI hvK11
      exact oNi ⟨rfl, (by first | (cbv; done) | ((repeat (cbv; simp only [c7])); first | done | cbv))⟩
  · rintro _ rfl
    refine nT ?_
    rcases tf v10 with c12 | c12
    · replace h := cT c12 h
      refine AWp.cdT rfl (by first | rfl | simp only [c12, Bool.not_true, Bool.not_false, cond_true, cond_false]) ?_
      refine AWp.seq ?_
      refine AWp.rg hT hA { tk := [22], nl := [22] } (by (repeat (cbv; simp only [c12])); first | done | cbv) (lb rfl) ?_
      refine nT ?_
      refine AWp.ret ?_
      refine rT ?_
      cases soI h
      exact ⟨rfl, rfl, rfl, lb rfl, _, rfl⟩
    · replace h := cF c12 h
      refine AWp.cdF rfl (by first | rfl | simp only [c12, Bool.not_true, Bool.not_false, cond_true, cond_false]) ?_
      refine AWp.skip ?_
      refine nT ?_
      refine AWp.seq ?_
      refine AWp.rg hT hA {} (by (repeat (cbv; simp only [c12])); first | done | cbv) (lb rfl) ?_
      refine nT ?_
      refine AWp.seq ?_
      refine AWp.rg hT hA { tk := [29], nl := [29] } (by (repeat (cbv; simp only [c12])); first | done | cbv) (lb rfl) ?_
      refine nT ?_
      refine AWp.seq ?_
      refine AWp.seq ?_
      refine AWp.rg hT hA {} (by (repeat (cbv; simp only [c12])); first | done | cbv) (lb rfl) ?_
      refine nT ?_
      rcases tf (A.zlt 6 (A.wrp .i64 (A.zmul x1 x3))) with c13 | c13
      · replace h := cT c13 h
        refine AWp.cdT rfl (by first | rfl | simp only [c12, c13, Bool.not_true, Bool.not_false, cond_true, cond_false]) ?_
        refine AWp.seq ?_
        refine AWp.rg hT hA { tk := [33], nl := [33] } (by (repeat (cbv; simp only [c12, c13])); first | done | cbv) (lb rfl) ?_
        refine nT ?_
        refine AWp.ret ?_
        refine rT ?_
        cases soI h
        exact ⟨rfl, rfl, rfl, lb rfl, _, rfl⟩
      · replace h := cF c13 h
        refine AWp.cdF rfl (by first | rfl | simp only [c12, c13, Bool.not_true, Bool.not_false, cond_true, cond_false]) ?_
        refine AWp.skip ?_
        refine nT ?_
        refine AWp.seq ?_
        refine AWp.seq ?_
        refine AWp.rg hT hA {} (by (repeat (cbv; simp only [c12, c13])); first | done | cbv) (lb rfl) ?_
        refine nT ?_
        refine AWp.block ?_
        obtain ⟨xK399, hxK399, K399, hK399, hkK399⟩ := bindK h
        refine AWp.cutX 0 [4, 7] [] 0 (lb rfl) (fun τ => ∃ v398, K399 v398 = some (v401, v402, v403) ∧ τ = { env := [(4, (.lbox [(.d (.int .i64 0)), (.own 3 [])])), (7, (.lbox [(.d (.int .i64 (A.wrp .i64 (A.zmul x1 x3)))), (.own 3 v398)]))], heap := [], n := 112 }) ?_ ?_
        · skip
          refine AWp.iter hxK399 [2, 3, 4, 6, 7, 35, 36] [] 0 (lb rfl) (fun (v205, v206) => { env := [(2, (.lbox [(.d (.int .i64 x1)), (.d (.list 3 x2))])), (3, (.lbox [(.d (.int .i64 x3)), (.d (.list 3 x4))])), (4, (.lbox [(.d (.int .i64 0)), (.own 3 [])])), (6, (.d (.int .i64 x3))), (7, (.lbox [(.d (.int .i64 (A.wrp .i64 (A.zmul x1 x3)))), (.own 3 v205)])), (35, (.d (.int .i64 (A.wrp .i64 (A.zmul x1 x3))))), (36, (.d (.int .i64 v206)))], heap := [], n := 112 }) ⟨rfl, (by first | (cbv; done) | ((repeat (cbv; simp only [c12, c13])); first | done | cbv))⟩ ?_
          rintro ⟨v205, v206⟩ eK399 hsK399
          dsimp only [R57L2] at hsK399
          refine AWp.seq ?_
          refine AWp.rg hT hA {} (by cbv) (lb rfl) ?_
          refine nT ?_
          refine AWp.seq ?_
          rcases tf (A.zlt v206 (A.wrp .i64 (A.zmul x1 x3))) with c207 | c207
          · replace hsK399 := cT c207 hsK399
            refine AWp.cdT rfl (by first | rfl | simp only [c207, Bool.not_true, Bool.not_false, cond_true, cond_false]) ?_
            refine AWp.skip ?_
            refine nT ?_
            refine AWp.seq ?_
            refine AWp.block ?_
            refine AWp.seq ?_
            refine AWp.rg hT hA {} (by (repeat (cbv; simp only [c207])); first | done | cbv) (lb rfl) ?_
            refine nT ?_
            refine AWp.seq ?_
            refine AWp.rg hT hA {} (by (repeat (cbv; simp only [c207])); first | done | cbv) (lb rfl) ?_
            refine nT ?_
            refine AWp.block ?_
            obtain ⟨xK397, hxK397, K397, hK397, hkK397⟩ := bindK hsK399
            refine AWp.cutX 2 [2, 3, 4, 6, 7, 35, 36] [] 0 (lb rfl) (fun τ => ∃ v396, K397 v396 = some eK399 ∧ τ = { env := [(2, (.lbox [(.d (.int .i64 x1)), (.d (.list 3 x2))])), (3, (.lbox [(.d (.int .i64 x3)), (.d (.list 3 x4))])), (4, (.lbox [(.d (.int .i64 0)), (.own 3 [])])), (6, (.d (.int .i64 x3))), (7, (.lbox [(.d (.int .i64 (A.wrp .i64 (A.zmul x1 x3)))), (.own 3 v396)])), (35, (.d (.int .i64 (A.wrp .i64 (A.zmul x1 x3))))), (36, (.d (.int .i64 v206)))], heap := [], n := 112 }) ?_ ?_
            · skip
              refine AWp.iter hxK397 [2, 3, 4, 6, 7, 8, 35, 36, 39] [] 0 (lb rfl) (fun (v299, v300) => { env := [(2, (.lbox [(.d (.int .i64 x1)), (.d (.list 3 x2))])), (3, (.lbox [(.d (.int .i64 x3)), (.d (.list 3 x4))])), (4, (.lbox [(.d (.int .i64 0)), (.own 3 [])])), (6, (.d (.int .i64 x3))), (7, (.lbox [(.d (.int .i64 (A.wrp .i64 (A.zmul x1 x3)))), (.own 3 v299)])), (8, (.d (.int .i64 v206))), (35, (.d (.int .i64 (A.wrp .i64 (A.zmul x1 x3))))), (36, (.d (.int .i64 v206))), (39, (.d (.int .i64 v300)))], heap := [], n := 112 }) ⟨rfl, (by first | (cbv; done) | ((repeat (cbv; simp only [c207])); first | done | cbv))⟩ ?_
              rintro ⟨v299, v300⟩ eK397 hsK397
              dsimp only [R57L1] at hsK397
              refine AWp.seq ?_
              refine AWp.rg hT hA {} (by cbv) (lb rfl) ?_
              refine nT ?_
              refine AWp.seq ?_
              rcases tf (A.zlt v300 4) with c301 | c301
              · replace hsK397 := cT c301 hsK397
                refine AWp.cdT rfl (by first | rfl | simp only [c301, Bool.not_true, Bool.not_false, cond_true, cond_false]) ?_
                refine AWp.skip ?_
                refine nT ?_
                refine AWp.seq ?_
                refine AWp.block ?_
                refine AWp.seq ?_
                refine AWp.rg hT hA {} (by (repeat (cbv; simp only [c301])); first | done | cbv) (lb rfl) ?_
                refine nT ?_
                refine AWp.seq ?_
                refine AWp.rg hT hA {} (by (repeat (cbv; simp only [c301])); first | done | cbv) (lb rfl) ?_
                refine nT ?_
                refine AWp.block ?_
                obtain ⟨xK395, hxK395, K395, hK395, hkK395⟩ := bindK hsK397
                refine AWp.cutX 4 [2, 3, 4, 6, 7, 8, 35, 36, 39] [] 0 (lb rfl) (fun τ => ∃ v394, K395 v394 = some eK397 ∧ τ = { env := [(2, (.lbox [(.d (.int .i64 x1)), (.d (.list 3 x2))])), (3, (.lbox [(.d (.int .i64 x3)), (.d (.list 3 x4))])), (4, (.lbox [(.d (.int .i64 0)), (.own 3 [])])), (6, (.d (.int .i64 x3))), (7, (.lbox [(.d (.int .i64 (A.wrp .i64 (A.zmul x1 x3)))), (.own 3 v394)])), (8, (.d (.int .i64 v206))), (35, (.d (.int .i64 (A.wrp .i64 (A.zmul x1 x3))))), (36, (.d (.int .i64 v206))), (39, (.d (.int .i64 v300)))], heap := [], n := 112 }) ?_ ?_
                · skip
                  refine AWp.iter hxK395 [2, 3, 4, 6, 7, 8, 9, 35, 36, 39, 43, 44] [] 0 (lb rfl) (fun (v347, v348) => { env := [(2, (.lbox [(.d (.int .i64 x1)), (.d (.list 3 x2))])), (3, (.lbox [(.d (.int .i64 x3)), (.d (.list 3 x4))])), (4, (.lbox [(.d (.int .i64 0)), (.own 3 [])])), (6, (.d (.int .i64 x3))), (7, (.lbox [(.d (.int .i64 (A.wrp .i64 (A.zmul x1 x3)))), (.own 3 v347)])), (8, (.d (.int .i64 v206))), (9, (.d (.int .i64 v300))), (35, (.d (.int .i64 (A.wrp .i64 (A.zmul x1 x3))))), (36, (.d (.int .i64 v206))), (39, (.d (.int .i64 v300))), (43, (.d (.int .i64 (A.wrp .i64 (A.zmul x1 x3))))), (44, (.d (.int .i64 v348)))], heap := [], n := 112 }) ⟨rfl, (by first | (cbv; done) | ((repeat (cbv; simp only [c301])); first | done | cbv))⟩ ?_
                  rintro ⟨v347, v348⟩ eK395 hsK395
                  dsimp only [R57L0] at hsK395
                  refine AWp.seq ?_
                  refine AWp.rg hT hA {} (by cbv) (lb rfl) ?_
                  refine nT ?_
                  refine AWp.seq ?_
                  rcases tf (A.zlt v348 (A.wrp .i64 (A.zmul x1 x3))) with c349 | c349
                  · replace hsK395 := cT c349 hsK395
                    refine AWp.cdT rfl (by first | rfl | simp only [c349, Bool.not_true, Bool.not_false, cond_true, cond_false]) ?_
                    refine AWp.skip ?_
                    refine nT ?_
                    refine AWp.seq ?_
                    refine AWp.block ?_
                    refine AWp.seq ?_
                    refine AWp.rg hT hA {} (by (repeat (cbv; simp only [c349])); first | done | cbv) (lb rfl) ?_
                    refine nT ?_
                    refine AWp.seq ?_
                    refine AWp.regionDraw rfl (lb rfl) ?_
                    obtain ⟨_, e350, hsK395⟩ := bindS hsK395
                    have f351 := nkI e350
                    obtain ⟨_, e352, hsK395⟩ := bindS hsK395
                    have f353 := nkI e352
                    obtain ⟨r355, e354, hsK395⟩ := bindS hsK395
                    refine DOps.c0 hT hA {} rfl (by (repeat (cbv; simp only [c349, f351, f353])); first | done | cbv) (R105w hA e354) rfl rfl (lb rfl) rfl rfl ?_
                    refine DOps.cd hT hA {} rfl (by (repeat (cbv; simp only [c349, f351, f353])); first | done | cbv) (by kernel_rfl) ?_
                    refine nT ?_
                    refine AWp.seq ?_
                    refine AWp.regionDraw rfl (lb rfl) ?_
                    obtain ⟨_, e356, hsK395⟩ := bindS hsK395
                    have f357 := nkI e356
                    obtain ⟨_, e358, hsK395⟩ := bindS hsK395
                    have f359 := nkI e358
                    obtain ⟨r361, e360, hsK395⟩ := bindS hsK395
                    refine DOps.c0 hT hA {} rfl (by (repeat (cbv; simp only [c349, f357, f359])); first | done | cbv) (R105w hA e360) rfl rfl (lb rfl) rfl rfl ?_
                    refine DOps.cd hT hA {} rfl (by (repeat (cbv; simp only [c349, f357, f359])); first | done | cbv) (by kernel_rfl) ?_
                    refine nT ?_
                    refine AWp.seq ?_
                    obtain ⟨⟨v363, v364⟩, hvK365, hsK395⟩ := bindS hsK395
                    refine AWp.cutN [2, 3, 4, 6, 7, 8, 9, 10, 11, 12, 13, 35, 36, 39, 43, 44] [] 0 (lb rfl) (fun τ => τ = { env := [(2, (.lbox [(.d (.int .i64 x1)), (.d (.list 3 x2))])), (3, (.lbox [(.d (.int .i64 x3)), (.d (.list 3 x4))])), (4, (.lbox [(.d (.int .i64 0)), (.own 3 [])])), (6, (.d (.int .i64 x3))), (7, (.lbox [(.d (.int .i64 (A.wrp .i64 (A.zmul x1 x3)))), (.own 3 v347)])), (8, (.d (.int .i64 v206))), (9, (.d (.int .i64 v300))), (10, (.d (.int .i64 v348))), (11, (.d (.bool v363))), (12, (.d (.bool r361))), (13, (.d (.bool v364))), (35, (.d (.int .i64 (A.wrp .i64 (A.zmul x1 x3))))), (36, (.d (.int .i64 v206))), (39, (.d (.int .i64 v300))), (43, (.d (.int .i64 (A.wrp .i64 (A.zmul x1 x3))))), (44, (.d (.int .i64 v348)))], heap := [], n := 112 }) ?_ ?_
                    · skip
                      rcases tf r355 with c362 | c362
                      · replace hvK365 := cT c362 hvK365
                        refine AWp.rg hT hA {} (by (repeat (cbv; simp only [c349, c362])); first | done | cbv) (lb rfl) ?_
                        cases soI hvK365
                        exact oNi ⟨rfl, (by first | (cbv; done) | ((repeat (cbv; simp only [c349, c362])); first | done | cbv))⟩
                      · replace hvK365 := cF c362 hvK365
                        refine AWp.rg hT hA {} (by (repeat (cbv; simp only [c349, c362])); first | done | cbv) (lb rfl) ?_
                        cases soI hvK365
                        exact oNi ⟨rfl, (by first | (cbv; done) | ((repeat (cbv; simp only [c349, c362])); first | done | cbv))⟩
                    · rintro _ rfl
                      refine nT ?_
                      refine AWp.seq ?_
                      refine AWp.seq ?_
                      refine AWp.rg hT hA {} (by cbv) (lb rfl) ?_
                      refine nT ?_
                      obtain ⟨v385, hvK386, hsK395⟩ := bindS hsK395
                      refine AWp.cutN [2, 3, 4, 6, 7, 8, 9, 10, 13, 35, 36, 39, 43, 44] [] 0 (lb rfl) (fun τ => τ = { env := [(2, (.lbox [(.d (.int .i64 x1)), (.d (.list 3 x2))])), (3, (.lbox [(.d (.int .i64 x3)), (.d (.list 3 x4))])), (4, (.lbox [(.d (.int .i64 0)), (.own 3 [])])), (6, (.d (.int .i64 x3))), (7, (.lbox [(.d (.int .i64 (A.wrp .i64 (A.zmul x1 x3)))), (.own 3 v347)])), (8, (.d (.int .i64 v206))), (9, (.d (.int .i64 v300))), (10, (.d (.int .i64 v348))), (13, (.d (.bool v385))), (35, (.d (.int .i64 (A.wrp .i64 (A.zmul x1 x3))))), (36, (.d (.int .i64 v206))), (39, (.d (.int .i64 v300))), (43, (.d (.int .i64 (A.wrp .i64 (A.zmul x1 x3))))), (44, (.d (.int .i64 v348)))], heap := [], n := 112 }) ?_ ?_
                      · skip
                        rcases tf (A.zeq v300 0) with c366 | c366
                        · replace hvK386 := cT c366 hvK386
                          refine AWp.cdT rfl (by first | rfl | simp only [c366, Bool.not_true, Bool.not_false, cond_true, cond_false]) ?_
                          obtain ⟨v383, hvK384, hvK386⟩ := bindS hvK386
                          refine AWp.cutN [2, 3, 4, 6, 7, 8, 9, 10, 13, 35, 36, 39, 43, 44] [] 0 (lb rfl) (fun τ => τ = { env := [(2, (.lbox [(.d (.int .i64 x1)), (.d (.list 3 x2))])), (3, (.lbox [(.d (.int .i64 x3)), (.d (.list 3 x4))])), (4, (.lbox [(.d (.int .i64 0)), (.own 3 [])])), (6, (.d (.int .i64 x3))), (7, (.lbox [(.d (.int .i64 (A.wrp .i64 (A.zmul x1 x3)))), (.own 3 v347)])), (8, (.d (.int .i64 v206))), (9, (.d (.int .i64 v300))), (10, (.d (.int .i64 v348))), (13, (.d (.bool v383))), (35, (.d (.int .i64 (A.wrp .i64 (A.zmul x1 x3))))), (36, (.d (.int .i64 v206))), (39, (.d (.int .i64 v300))), (43, (.d (.int .i64 (A.wrp .i64 (A.zmul x1 x3))))), (44, (.d (.int .i64 v348)))], heap := [], n := 112 }) ?_ ?_
                          · skip
                            rcases tf v363 with c367 | c367
                            · replace hvK384 := cT c367 hvK384
                              obtain ⟨_, e368, hvK384⟩ := bindS hvK384
                              have f369 := nkI e368
                              obtain ⟨_, e370, hvK384⟩ := bindS hvK384
                              have f371 := nkI e370
                              rcases tf (A.zeq (A.rem v206 x3) (A.rem v348 x3)) with c372 | c372
                              · replace hvK384 := cT c372 hvK384
                                refine AWp.rd hT hA {} rfl (by (repeat (cbv; simp only [c366, c367, c372, f369, f371])); first | done | cbv) (by kernel_rfl) (lb rfl) ?_
                                cases soI hvK384
                                exact oNi ⟨rfl, (by first | (cbv; done) | ((repeat (cbv; simp only [c366, c367, c372])); first | done | cbv))⟩
                              · replace hvK384 := cF c372 hvK384
                                rcases tf r361 with c373 | c373
                                · replace hvK384 := cT c373 hvK384
                                  obtain ⟨_, e374, hvK384⟩ := bindS hvK384
                                  have f375 := nkI e374
                                  obtain ⟨_, e376, hvK384⟩ := bindS hvK384
                                  have f377 := nkI e376
                                  refine AWp.rd hT hA {} rfl (by (repeat (cbv; simp only [c366, c367, c372, c373, f369, f371, f375, f377])); first | done | cbv) (by kernel_rfl) (lb rfl) ?_
                                  cases soI hvK384
                                  exact oNi ⟨rfl, (by first | (cbv; done) | ((repeat (cbv; simp only [c366, c367, c372, c373])); first | done | cbv))⟩
                                · replace hvK384 := cF c373 hvK384
                                  refine AWp.rd hT hA {} rfl (by (repeat (cbv; simp only [c366, c367, c372, c373, f369, f371])); first | done | cbv) (by kernel_rfl) (lb rfl) ?_
                                  cases soI hvK384
                                  exact oNi ⟨rfl, (by first | (cbv; done) | ((repeat (cbv; simp only [c366, c367, c372, c373])); first | done | cbv))⟩
                            · replace hvK384 := cF c367 hvK384
                              rcases tf r361 with c378 | c378
                              · replace hvK384 := cT c378 hvK384
                                obtain ⟨_, e379, hvK384⟩ := bindS hvK384
                                have f380 := nkI e379
                                obtain ⟨_, e381, hvK384⟩ := bindS hvK384
                                have f382 := nkI e381
                                refine AWp.rd hT hA {} rfl (by (repeat (cbv; simp only [c366, c367, c378, f380, f382])); first | done | cbv) (by kernel_rfl) (lb rfl) ?_
                                cases soI hvK384
                                exact oNi ⟨rfl, (by first | (cbv; done) | ((repeat (cbv; simp only [c366, c367, c378])); first | done | cbv))⟩
                              · replace hvK384 := cF c378 hvK384
                                refine AWp.rd hT hA {} rfl (by (repeat (cbv; simp only [c366, c367, c378])); first | done | cbv) (by kernel_rfl) (lb rfl) ?_
                                cases soI hvK384
                                exact oNi ⟨rfl, (by first | (cbv; done) | ((repeat (cbv; simp only [c366, c367, c378])); first | done | cbv))⟩
                          · rintro _ rfl
                            cases soI hvK386
                            exact oNi ⟨rfl, (by cbv)⟩
                        · replace hvK386 := cF c366 hvK386
                          refine AWp.cdF rfl (by first | rfl | simp only [c366, Bool.not_true, Bool.not_false, cond_true, cond_false]) ?_
                          refine AWp.skip ?_
                          cases soI hvK386
                          exact oNi ⟨rfl, (by first | (cbv; done) | ((repeat (cbv; simp only [c366])); first | done | cbv))⟩
                      · rintro _ rfl
                        refine nT ?_
                        refine AWp.seq ?_
                        refine AWp.rg hT hA {} (by cbv) (lb rfl) ?_
                        refine nT ?_
                        obtain ⟨v392, hvK393, hsK395⟩ := bindS hsK395
                        refine AWp.cutN [2, 3, 4, 6, 7, 8, 9, 35, 36, 39, 43, 44] [] 0 (lb rfl) (fun τ => τ = { env := [(2, (.lbox [(.d (.int .i64 x1)), (.d (.list 3 x2))])), (3, (.lbox [(.d (.int .i64 x3)), (.d (.list 3 x4))])), (4, (.lbox [(.d (.int .i64 0)), (.own 3 [])])), (6, (.d (.int .i64 x3))), (7, (.lbox [(.d (.int .i64 (A.wrp .i64 (A.zmul x1 x3)))), (.own 3 v392)])), (8, (.d (.int .i64 v206))), (9, (.d (.int .i64 v300))), (35, (.d (.int .i64 (A.wrp .i64 (A.zmul x1 x3))))), (36, (.d (.int .i64 v206))), (39, (.d (.int .i64 v300))), (43, (.d (.int .i64 (A.wrp .i64 (A.zmul x1 x3))))), (44, (.d (.int .i64 v348)))], heap := [], n := 112 }) ?_ ?_
                        · skip
                          rcases tf v385 with c387 | c387
                          · replace hvK393 := cT c387 hvK393
                            refine AWp.cdT rfl (by first | rfl | simp only [c387, Bool.not_true, Bool.not_false, cond_true, cond_false]) ?_
                            obtain ⟨l388, e389, hvK393⟩ := bindS hvK393
                            obtain ⟨f390, f391⟩ := apI e389
                            refine AWp.rg hT hA { tk := [95, 101] } (by (repeat (cbv; simp only [c387, f390, f391])); first | done | cbv) (lb rfl) ?_
                            cases soI hvK393
                            exact oNi ⟨rfl, (by first | (cbv; done) | ((repeat (cbv; simp only [c387])); first | done | cbv))⟩
                          · replace hvK393 := cF c387 hvK393
                            refine AWp.cdF rfl (by first | rfl | simp only [c387, Bool.not_true, Bool.not_false, cond_true, cond_false]) ?_
                            refine AWp.skip ?_
                            cases soI hvK393
                            exact oNi ⟨rfl, (by first | (cbv; done) | ((repeat (cbv; simp only [c387])); first | done | cbv))⟩
                        · rintro _ rfl
                          refine nB ?_
                          refine nT ?_
                          refine AWp.rg hT hA {} (by cbv) (lb rfl) ?_
                          exact nT ⟨_, (soI hsK395).symm, rfl, (by cbv)⟩
                  · replace hsK395 := cF c349 hsK395
                    refine AWp.cdF rfl (by first | rfl | simp only [c349, Bool.not_true, Bool.not_false, cond_true, cond_false]) ?_
                    refine AWp.exit ?_
                    refine xT ?_
                    refine xT ?_
                    refine exL hsK395 fun hx => ?_
                    subst hx
                    exact oxI ⟨rfl, _, hkK395, (by first | (cbv; done) | ((repeat (cbv; simp only [c349])); first | done | cbv))⟩
                · rintro _ ⟨v394, hkK395, rfl⟩
                  have hsK397 := (hK395 _ hkK395)
                  refine xB ?_
                  refine nB ?_
                  refine nT ?_
                  refine AWp.rg hT hA {} (by cbv) (lb rfl) ?_
                  exact nT ⟨_, (soI hsK397).symm, rfl, (by cbv)⟩
              · replace hsK397 := cF c301 hsK397
                refine AWp.cdF rfl (by first | rfl | simp only [c301, Bool.not_true, Bool.not_false, cond_true, cond_false]) ?_
                refine AWp.exit ?_
                refine xT ?_
                refine xT ?_
                refine exL hsK397 fun hx => ?_
                subst hx
                exact oxI ⟨rfl, _, hkK397, (by first | (cbv; done) | ((repeat (cbv; simp only [c301])); first | done | cbv))⟩
            · rintro _ ⟨v396, hkK397, rfl⟩
              have hsK399 := (hK397 _ hkK397)
              refine xB ?_
              refine nB ?_
              refine nT ?_
              refine AWp.rg hT hA {} (by cbv) (lb rfl) ?_
              exact nT ⟨_, (soI hsK399).symm, rfl, (by cbv)⟩
          · replace hsK399 := cF c207 hsK399
            refine AWp.cdF rfl (by first | rfl | simp only [c207, Bool.not_true, Bool.not_false, cond_true, cond_false]) ?_
            refine AWp.exit ?_
            refine xT ?_
            refine xT ?_
            refine exL hsK399 fun hx => ?_
            subst hx
            exact oxI ⟨rfl, _, hkK399, (by first | (cbv; done) | ((repeat (cbv; simp only [c207])); first | done | cbv))⟩
        · rintro _ ⟨v398, hkK399, rfl⟩
          have h := (hK399 _ hkK399)
          refine xB ?_
          refine nT ?_
          refine AWp.seq ?_
          refine AWp.seq ?_
          refine AWp.rg hT hA {} (by cbv) (lb rfl) ?_
          refine nT ?_
          rcases tf (A.zlt 24 (A.len v398)) with c400 | c400
          · replace h := cT c400 h
            refine AWp.cdT rfl (by first | rfl | simp only [c400, Bool.not_true, Bool.not_false, cond_true, cond_false]) ?_
            refine AWp.seq ?_
            refine AWp.rg hT hA { tk := [110], nl := [110] } (by (repeat (cbv; simp only [c400])); first | done | cbv) (lb rfl) ?_
            refine nT ?_
            refine AWp.ret ?_
            refine rT ?_
            cases soI h
            exact ⟨rfl, rfl, rfl, lb rfl, _, rfl⟩
          · replace h := cF c400 h
            refine AWp.cdF rfl (by first | rfl | simp only [c400, Bool.not_true, Bool.not_false, cond_true, cond_false]) ?_
            refine AWp.skip ?_
            refine nT ?_
            refine AWp.seq ?_
            refine AWp.rg hT hA { tk := [111] } (by (repeat (cbv; simp only [c400])); first | done | cbv) (lb rfl) ?_
            refine nT ?_
            refine AWp.ret ?_
            cases soI h
            exact ⟨rfl, rfl, rfl, lb rfl, _, rfl⟩

theorem R14w {A : Ar} (hA : A = Ar.std) {x1 : Int} {x2 : List D} {x3 : Int} {x4 : List D} {x5 : Int} {x6 : Int} {v61 : Bool} (h : R14 A x1 x2 x3 x4 x5 x6 = some v61) : ACall Try.prog 14 [(.d (.agg [(.int .i64 x1), (.list 3 x2)])), (.d (.agg [(.int .i64 x3), (.list 3 x4)])), (.d (.int .i64 x5)), (.d (.int .i64 x6))] [] (.d (.bool v61)) [] := by
  unfold R14 at h
  refine ACall.enter hT (fn := Try.f14) Try.func14 rfl (by decide) (by simp [Try.f14]) rfl rfl rfl rfl (lb rfl) ?_
  refine AWp.seq ?_
  refine AWp.rg hT hA {} (by cbv) (lb rfl) ?_
  refine nT ?_
  refine AWp.seq ?_
  refine AWp.seq ?_
  obtain ⟨v12, hvK13, h⟩ := bindS h
  refine AWp.cutN [2, 3, 4, 5, 18] [] 0 (lb rfl) (fun τ => τ = { env := [(2, (.d (.int .i64 x5))), (3, (.d (.int .i64 x6))), (4, (.lbox [(.d (.int .i64 x1)), (.d (.list 3 x2))])), (5, (.lbox [(.d (.int .i64 x3)), (.d (.list 3 x4))])), (18, (.d (.bool v12)))], heap := [], n := 85 }) ?_ ?_
  · skip
    refine AWp.region ?_
    obtain ⟨r8, e7, hvK13⟩ := bindS hvK13
    refine AOps.cc hT hA {} (by cbv) (lb rfl) (R16w hA e7) rfl (.inl rfl) rfl rfl rfl (lb rfl) rfl rfl ?_
    rcases tf r8 with c9 | c9
    · replace hvK13 := cT c9 hvK13
      refine AOps.cd hT hA {} (by (repeat (cbv; simp only [c9])); first | done | cbv) (lb rfl) ?_
      cases soI hvK13
      exact oNi ⟨rfl, (by first | (cbv; done) | ((repeat (cbv; simp only [c9])); first | done | cbv))⟩
    · replace hvK13 := cF c9 hvK13
      obtain ⟨r11, e10, hvK13⟩ := bindS hvK13
      refine AOps.cc hT hA {} (by (repeat (cbv; simp only [c9])); first | done | cbv) (lb rfl) (R16w hA e10) rfl (.inl rfl) rfl rfl rfl (lb rfl) rfl rfl ?_
      refine AOps.cd hT hA {} (by (repeat (cbv; simp only [c9])); first | done | cbv) (lb rfl) ?_
      cases soI hvK13
      exact oNi ⟨rfl, (by first | (cbv; done) | ((repeat (cbv; simp only [c9])); first | done | cbv))⟩
  · rintro _ rfl
    refine nT ?_
    rcases tf v12 with c14 | c14
    · replace h := cT c14 h
      refine AWp.cdT rfl (by first | rfl | simp only [c14, Bool.not_true, Bool.not_false, cond_true, cond_false]) ?_
      refine AWp.seq ?_
      refine AWp.region ?_
      obtain ⟨r16, e15, h⟩ := bindS h
      refine AOps.cc hT hA { tk := [19] } (by (repeat (cbv; simp only [c14])); first | done | cbv) (lb rfl) (R17w hA e15) rfl (.inl rfl) rfl rfl rfl (lb rfl) rfl rfl ?_
      refine AOps.cd hT hA { tk := [19] } (by (repeat (cbv; simp only [c14])); first | done | cbv) (lb rfl) ?_
      refine nT ?_
      refine AWp.ret ?_
      refine rT ?_
      cases soI h
      exact ⟨rfl, rfl, rfl, lb rfl, _, rfl⟩
    · replace h := cF c14 h
      refine AWp.cdF rfl (by first | rfl | simp only [c14, Bool.not_true, Bool.not_false, cond_true, cond_false]) ?_
      refine AWp.skip ?_
      refine nT ?_
      refine AWp.seq ?_
      refine AWp.region ?_
      obtain ⟨⟨r18, r19, r20⟩, e17, h⟩ := bindS h
      refine AOps.cc hT hA { tk := [24] } (by (repeat (cbv; simp only [c14])); first | done | cbv) (lb rfl) (R43w hA e17) rfl (.inl rfl) rfl rfl rfl (lb rfl) rfl rfl ?_
      refine AOps.cd hT hA { tk := [24] } (by (repeat (cbv; simp only [c14])); first | done | cbv) (lb rfl) ?_
      refine nT ?_
      refine AWp.seq ?_
      refine AWp.region ?_
      obtain ⟨⟨r22, r23, r24⟩, e21, h⟩ := bindS h
      refine AOps.cc hT hA { tk := [30] } (by (repeat (cbv; simp only [c14])); first | done | cbv) (lb rfl) (R54w hA e21) rfl (.inl rfl) rfl rfl rfl (lb rfl) rfl rfl ?_
      refine AOps.cd hT hA { tk := [30] } (by (repeat (cbv; simp only [c14])); first | done | cbv) (lb rfl) ?_
      refine nT ?_
      refine AWp.seq ?_
      refine AWp.seq ?_
      obtain ⟨v28, hvK29, h⟩ := bindS h
      refine AWp.cutN [3, 4, 5, 9, 11, 40] [] 0 (lb rfl) (fun τ => τ = { env := [(3, (.d (.int .i64 x6))), (4, (.lbox [(.d (.int .i64 x1)), (.d (.list 3 x2))])), (5, (.lbox [(.d (.int .i64 x3)), (.d (.list 3 x4))])), (9, (.lbox [(.d (.int .i64 r18)), (.d (.list 3 r19))])), (11, (.lbox [(.d (.int .i64 r22)), (.d (.list 3 r23))])), (40, (.d (.bool v28)))], heap := [], n := 85 }) ?_ ?_
      · skip
        refine AWp.region ?_
        obtain ⟨r26, e25, hvK29⟩ := bindS hvK29
        refine AOps.cc hT hA {} (by (repeat (cbv; simp only [c14])); first | done | cbv) (lb rfl) (R30w hA e25) rfl (.inl rfl) rfl rfl rfl (lb rfl) rfl rfl ?_
        rcases tf r26 with c27 | c27
        · replace hvK29 := cT c27 hvK29
          refine AOps.cd hT hA {} (by (repeat (cbv; simp only [c14, c27])); first | done | cbv) (lb rfl) ?_
          cases soI hvK29
          exact oNi ⟨rfl, (by first | (cbv; done) | ((repeat (cbv; simp only [c14, c27])); first | done | cbv))⟩
        · replace hvK29 := cF c27 hvK29
          refine AOps.cd hT hA {} (by (repeat (cbv; simp only [c14, c27])); first | done | cbv) (lb rfl) ?_
          cases soI hvK29
          exact oNi ⟨rfl, (by first | (cbv; done) | ((repeat (cbv; simp only [c14, c27])); first | done | cbv))⟩
      · rintro _ rfl
        refine nT ?_
        rcases tf v28 with c30 | c30
        · replace h := cT c30 h
          refine AWp.cdT rfl (by first | rfl | simp only [c30, Bool.not_true, Bool.not_false, cond_true, cond_false]) ?_
          refine AWp.seq ?_
          refine AWp.rg hT hA {} (by (repeat (cbv; simp only [c30])); first | done | cbv) (lb rfl) ?_
          refine nT ?_
          refine AWp.ret ?_
          refine rT ?_
          cases soI h
          exact ⟨rfl, rfl, rfl, lb rfl, _, rfl⟩
        · replace h := cF c30 h
          refine AWp.cdF rfl (by first | rfl | simp only [c30, Bool.not_true, Bool.not_false, cond_true, cond_false]) ?_
          refine AWp.skip ?_
          refine nT ?_
          refine AWp.seq ?_
          refine AWp.region ?_
          obtain ⟨⟨r32, r33, r34⟩, e31, h⟩ := bindS h
          refine AOps.cc hT hA { tk := [45] } (by (repeat (cbv; simp only [c30])); first | done | cbv) (lb rfl) (R45w hA e31) rfl (.inl rfl) rfl rfl rfl (lb rfl) rfl rfl ?_
          refine AOps.cd hT hA { tk := [45] } (by (repeat (cbv; simp only [c30])); first | done | cbv) (lb rfl) ?_
          refine nT ?_
          refine AWp.seq ?_
          refine AWp.region ?_
          obtain ⟨⟨r36, r37, r38⟩, e35, h⟩ := bindS h
          refine AOps.cc hT hA { tk := [51] } (by (repeat (cbv; simp only [c30])); first | done | cbv) (lb rfl) (R55w hA e35) rfl (.inl rfl) rfl rfl rfl (lb rfl) rfl rfl ?_
          refine AOps.cd hT hA { tk := [51] } (by (repeat (cbv; simp only [c30])); first | done | cbv) (lb rfl) ?_
          refine nT ?_
          refine AWp.seq ?_
          refine AWp.seq ?_
          obtain ⟨v42, hvK43, h⟩ := bindS h
          refine AWp.cutN [4, 5, 9, 11, 61] [] 0 (lb rfl) (fun τ => τ = { env := [(4, (.lbox [(.d (.int .i64 x1)), (.d (.list 3 x2))])), (5, (.lbox [(.d (.int .i64 x3)), (.d (.list 3 x4))])), (9, (.lbox [(.d (.int .i64 r32)), (.d (.list 3 r33))])), (11, (.lbox [(.d (.int .i64 r36)), (.d (.list 3 r37))])), (61, (.d (.bool v42)))], heap := [], n := 85 }) ?_ ?_
          · skip
            refine AWp.region ?_
            obtain ⟨r40, e39, hvK43⟩ := bindS hvK43
            refine AOps.cc hT hA {} (by (repeat (cbv; simp only [c30])); first | done | cbv) (lb rfl) (R30w hA e39) rfl (.inl rfl) rfl rfl rfl (lb rfl) rfl rfl ?_
            rcases tf r40 with c41 | c41
            · replace hvK43 := cT c41 hvK43
              refine AOps.cd hT hA {} (by (repeat (cbv; simp only [c30, c41])); first | done | cbv) (lb rfl) ?_
              cases soI hvK43
              exact oNi ⟨rfl, (by first | (cbv; done) | ((repeat (cbv; simp only [c30, c41])); first | done | cbv))⟩
            · replace hvK43 := cF c41 hvK43
              refine AOps.cd hT hA {} (by (repeat (cbv; simp only [c30, c41])); first | done | cbv) (lb rfl) ?_
              cases soI hvK43
              exact oNi ⟨rfl, (by first | (cbv; done) | ((repeat (cbv; simp only [c30, c41])); first | done | cbv))⟩
          · rintro _ rfl
            refine nT ?_
            rcases tf v42 with c44 | c44
            · replace h := cT c44 h
              refine AWp.cdT rfl (by first | rfl | simp only [c44, Bool.not_true, Bool.not_false, cond_true, cond_false]) ?_
              refine AWp.seq ?_
              refine AWp.rg hT hA {} (by (repeat (cbv; simp only [c44])); first | done | cbv) (lb rfl) ?_
              refine nT ?_
              refine AWp.ret ?_
              refine rT ?_
              cases soI h
              exact ⟨rfl, rfl, rfl, lb rfl, _, rfl⟩
            · replace h := cF c44 h
              refine AWp.cdF rfl (by first | rfl | simp only [c44, Bool.not_true, Bool.not_false, cond_true, cond_false]) ?_
              refine AWp.skip ?_
              refine nT ?_
              refine AWp.seq ?_
              refine AWp.region ?_
              obtain ⟨⟨r46, r47, r48⟩, e45, h⟩ := bindS h
              refine AOps.cc hT hA { tk := [66] } (by (repeat (cbv; simp only [c44])); first | done | cbv) (lb rfl) (R56w hA e45) rfl (.inl rfl) rfl rfl rfl (lb rfl) rfl rfl ?_
              refine AOps.cd hT hA { tk := [66] } (by (repeat (cbv; simp only [c44])); first | done | cbv) (lb rfl) ?_
              refine nT ?_
              refine AWp.seq ?_
              refine AWp.region ?_
              obtain ⟨⟨r50, r51, r52⟩, e49, h⟩ := bindS h
              refine AOps.cc hT hA { tk := [72] } (by (repeat (cbv; simp only [c44])); first | done | cbv) (lb rfl) (R57w hA e49) rfl (.inl rfl) rfl rfl rfl (lb rfl) rfl rfl ?_
              refine AOps.cd hT hA { tk := [72] } (by (repeat (cbv; simp only [c44])); first | done | cbv) (lb rfl) ?_
              refine nT ?_
              refine AWp.seq ?_
              obtain ⟨v59, hvK60, h⟩ := bindS h
              refine AWp.cutN [8] [] 0 (lb rfl) (fun τ => τ = { env := [(8, (.d (.bool v59)))], heap := [], n := 85 }) ?_ ?_
              · skip
                refine AWp.region ?_
                obtain ⟨r54, e53, hvK60⟩ := bindS hvK60
                refine AOps.cc hT hA { tk := [84] } (by (repeat (cbv; simp only [c44])); first | done | cbv) (lb rfl) (R30w hA e53) rfl (.inl rfl) rfl rfl rfl (lb rfl) rfl rfl ?_
                rcases tf r54 with c55 | c55
                · replace hvK60 := cT c55 hvK60
                  rcases tf (A.zeq r48 r52) with c56 | c56
                  · replace hvK60 := cT c56 hvK60
                    obtain ⟨r58, e57, hvK60⟩ := bindS hvK60
                    refine AOps.cc hT hA { tk := [84] } (by (repeat (cbv; simp only [c44, c55, c56])); first | done | cbv) (lb rfl) (R17w hA e57) rfl (.inl rfl) rfl rfl rfl (lb rfl) rfl rfl ?_
                    refine AOps.cd hT hA { tk := [84] } (by (repeat (cbv; simp only [c44, c55, c56])); first | done | cbv) (lb rfl) ?_
                    cases soI hvK60
                    exact oNi ⟨rfl, (by first | (cbv; done) | ((repeat (cbv; simp only [c44, c55, c56])); first | done | cbv))⟩
                  · replace hvK60 := cF c56 hvK60
                    refine AOps.cd hT hA { tk := [84] } (by (repeat (cbv; simp only [c44, c55, c56])); first | done | cbv) (lb rfl) ?_
                    cases soI hvK60
                    exact oNi ⟨rfl, (by first | (cbv; done) | ((repeat (cbv; simp only [c44, c55, c56])); first | done | cbv))⟩
                · replace hvK60 := cF c55 hvK60
                  refine AOps.cd hT hA { tk := [84] } (by (repeat (cbv; simp only [c44, c55])); first | done | cbv) (lb rfl) ?_
                  cases soI hvK60
                  exact oNi ⟨rfl, (by first | (cbv; done) | ((repeat (cbv; simp only [c44, c55])); first | done | cbv))⟩
              · rintro _ rfl
                refine nT ?_
                refine AWp.ret ?_
                cases soI h
                exact ⟨rfl, rfl, rfl, lb rfl, _, rfl⟩
end Go.Am
