/- Own text: Genw1. -/
import Derived.Test.YtcnplegmmmobcaaGenw0
set_option maxRecDepth 100000
set_option maxHeartbeats 2000000
set_option linter.unusedVariables false
set_option linter.unusedSimpArgs false
namespace Go.Am
open Go Go.Proofs
theorem R89w {A : Ar} (hA : A = Ar.std) {x1 : List D} {x2 : Int} {x3 : Int} {x4 : Int} {v7 : Bool} (h : R89 A x1 x2 x3 x4 = some v7) : ACall Try.prog 89 [(.d (.list 3 x1)), (.d (.agg [(.int .i64 x2), (.int .i64 x3), (.int .i64 x4)]))] [] (.d (.bool v7)) [] := by
  unfold R89 at h
  refine ACall.enter hT (fn := Try.f89) Try.func89 rfl (by decide) (by simp [Try.f89]) rfl rfl rfl rfl (lb rfl) ?_
  refine AWp.seq ?_
  refine AWp.rg hT hA {} (by cbv) (lb rfl) ?_
  refine nT ?_
  refine AWp.seq ?_
  refine AWp.region ?_
  obtain ⟨r6, e5, h⟩ := bindS h
  refine AOps.cc hT hA { tk := [8] } (by cbv) (lb rfl) (R109w hA e5) rfl (.inl rfl) rfl rfl rfl (lb rfl) rfl rfl ?_
  refine AOps.cd hT hA { tk := [8] } (by cbv) (lb rfl) ?_
  refine nT ?_
  refine AWp.ret ?_
  cases soI h
  exact ⟨rfl, rfl, rfl, lb rfl, _, rfl⟩

theorem R43w {A : Ar} (hA : A = Ar.std) {x1 : Int} {x2 : List D} {x3 : Int} {v52 : Int} {v53 : List D} {v54 : Int} (h : R43 A x1 x2 x3 = some (v52, v53, v54)) : ACall Try.prog 43 [(.d (.agg [(.int .i64 x1), (.list 3 x2)])), (.d (.int .i64 x3))] [] (.tuple [(.d (.agg [(.int .i64 v52), (.list 3 v53)])), (.d (.int .i64 v54))]) [] := by
  unfold R43 at h
  refine ACall.enter hT (fn := Try.f43) Try.func43 rfl (by decide) (by simp [Try.f43]) rfl rfl rfl rfl (lb rfl) ?_
  refine AWp.seq ?_
  refine AWp.rg hT hA {} (by cbv) (lb rfl) ?_
  refine nT ?_
  refine AWp.seq ?_
  refine AWp.block ?_
  refine AWp.seq ?_
  refine AWp.region ?_
  obtain ⟨r5, e4, h⟩ := bindS h
  refine AOps.cc hT hA {} (by cbv) (lb rfl) (R33w hA e4) rfl (.inl rfl) rfl rfl rfl (lb rfl) rfl rfl ?_
  refine AOps.cd hT hA {} (by cbv) (lb rfl) ?_
  refine nT ?_
  rcases tf r5 with c6 | c6
  · replace h := cT c6 h
    refine AWp.cdF rfl (by first | rfl | simp only [c6, Bool.not_true, Bool.not_false, cond_true, cond_false]) ?_
    refine AWp.seq ?_
    refine AWp.region ?_
    obtain ⟨r8, e7, h⟩ := bindS h
    refine AOps.cc hT hA {} (by (repeat (cbv; simp only [c6])); first | done | cbv) (lb rfl) (R61w hA e7) rfl (.inl rfl) rfl rfl rfl (lb rfl) rfl rfl ?_
    refine AOps.cd hT hA {} (by (repeat (cbv; simp only [c6])); first | done | cbv) (lb rfl) ?_
    refine nT ?_
    rcases tf r8 with c9 | c9
    · replace h := cT c9 h
      refine AWp.cdF rfl (by first | rfl | simp only [c6, c9, Bool.not_true, Bool.not_false, cond_true, cond_false]) ?_
      refine AWp.skip ?_
      refine nB ?_
      refine nT ?_
      refine AWp.seq ?_
      refine AWp.rg hT hA { tk := [21], nl := [21] } (by (repeat (cbv; simp only [c6, c9])); first | done | cbv) (lb rfl) ?_
      refine nT ?_
      refine AWp.seq ?_
      refine AWp.seq ?_
      refine AWp.rg hT hA {} (by (repeat (cbv; simp only [c6, c9])); first | done | cbv) (lb rfl) ?_
      refine nT ?_
      refine AWp.block ?_
      obtain ⟨xK51, hxK51, K51, hK51, hkK51⟩ := bindK h
      refine AWp.cutX 1 [4, 6] [] 0 (lb rfl) (fun τ => ∃ v50, K51 v50 = some (v52, v53, v54) ∧ τ = { env := [(4, (.lbox [(.d (.int .i64 0)), (.own 3 [])])), (6, (.lbox [(.d (.int .i64 x1)), (.own 3 v50)]))], heap := [], n := 47 }) ?_ ?_
      · skip
        refine AWp.iter hxK51 [1, 4, 6, 23, 24, 25] [] 0 (lb rfl) (fun (v29, v30) => { env := [(1, (.d (.int .i64 x3))), (4, (.lbox [(.d (.int .i64 0)), (.own 3 [])])), (6, (.lbox [(.d (.int .i64 x1)), (.own 3 v29)])), (23, (.d (.list 3 x2))), (24, (.d (.int .i64 (A.len x2)))), (25, (.d (.int .i64 v30)))], heap := [], n := 47 }) ⟨rfl, (by first | (cbv; done) | ((repeat (cbv; simp only [c6, c9])); first | done | cbv))⟩ ?_
        rintro ⟨v29, v30⟩ eK51 hsK51
        dsimp only [R43L0] at hsK51
        refine AWp.seq ?_
        refine AWp.rg hT hA {} (by cbv) (lb rfl) ?_
        refine nT ?_
        refine AWp.seq ?_
        rcases tf (A.zlt v30 (A.len x2)) with c31 | c31
        · replace hsK51 := cT c31 hsK51
          refine AWp.cdT rfl (by first | rfl | simp only [c31, Bool.not_true, Bool.not_false, cond_true, cond_false]) ?_
          refine AWp.skip ?_
          refine nT ?_
          refine AWp.seq ?_
          refine AWp.block ?_
          refine AWp.seq ?_
          obtain ⟨⟨a32, a33, a34⟩, e35, hsK51⟩ := bindS hsK51
          obtain ⟨f36, f37⟩ := gtI e35
          refine AWp.rg hT hA { tk := [28] } (by (repeat (cbv; simp only [c31, f36, f37])); first | done | cbv) (lb rfl) ?_
          refine nT ?_
          refine AWp.seq ?_
          refine AWp.seq ?_
          refine AWp.rg hT hA {} (by (repeat (cbv; simp only [c31])); first | done | cbv) (lb rfl) ?_
          refine nT ?_
          obtain ⟨v39, hvK40, hsK51⟩ := bindS hsK51
          refine AWp.cutN [1, 4, 6, 8, 23, 24, 25] [] 0 (lb rfl) (fun τ => τ = { env := [(1, (.d (.int .i64 x3))), (4, (.lbox [(.d (.int .i64 0)), (.own 3 [])])), (6, (.lbox [(.d (.int .i64 x1)), (.own 3 v29)])), (8, (.lbox [(.d (.int .i64 a32)), (.d (.int .i64 v39)), (.d (.int .i64 a34))])), (23, (.d (.list 3 x2))), (24, (.d (.int .i64 (A.len x2)))), (25, (.d (.int .i64 v30)))], heap := [], n := 47 }) ?_ ?_
          · skip
            rcases tf (A.zeq a33 x3) with c38 | c38
            · replace hvK40 := cT c38 hvK40
              refine AWp.cdT rfl (by first | rfl | simp only [c31, c38, Bool.not_true, Bool.not_false, cond_true, cond_false]) ?_
              refine AWp.rg hT hA {} (by (repeat (cbv; simp only [c31, c38])); first | done | cbv) (lb rfl) ?_
              cases soI hvK40
              exact oNi ⟨rfl, (by first | (cbv; done) | ((repeat (cbv; simp only [c31, c38])); first | done | cbv))⟩
            · replace hvK40 := cF c38 hvK40
              refine AWp.cdF rfl (by first | rfl | simp only [c31, c38, Bool.not_true, Bool.not_false, cond_true, cond_false]) ?_
              refine AWp.skip ?_
              cases soI hvK40
              exact oNi ⟨rfl, (by first | (cbv; done) | ((repeat (cbv; simp only [c31, c38])); first | done | cbv))⟩
          · rintro _ rfl
            refine nT ?_
            refine AWp.seq ?_
            refine AWp.region ?_
            obtain ⟨r42, e41, hsK51⟩ := bindS hsK51
            refine AOps.cc hT hA {} (by cbv) (lb rfl) (R89w hA e41) rfl (.inl rfl) rfl rfl rfl (lb rfl) rfl rfl ?_
            refine AOps.cd hT hA {} (by cbv) (lb rfl) ?_
            refine nT ?_
            obtain ⟨v48, hvK49, hsK51⟩ := bindS hsK51
            refine AWp.cutN [1, 4, 6, 23, 24, 25] [] 0 (lb rfl) (fun τ => τ = { env := [(1, (.d (.int .i64 x3))), (4, (.lbox [(.d (.int .i64 0)), (.own 3 [])])), (6, (.lbox [(.d (.int .i64 x1)), (.own 3 v48)])), (23, (.d (.list 3 x2))), (24, (.d (.int .i64 (A.len x2)))), (25, (.d (.int .i64 v30)))], heap := [], n := 47 }) ?_ ?_
            · skip
              rcases tf r42 with c43 | c43
              · replace hvK49 := cT c43 hvK49
                refine AWp.cdF rfl (by first | rfl | simp only [c43, Bool.not_true, Bool.not_false, cond_true, cond_false]) ?_
                refine AWp.skip ?_
                cases soI hvK49
                exact oNi ⟨rfl, (by first | (cbv; done) | ((repeat (cbv; simp only [c43])); first | done | cbv))⟩
              · replace hvK49 := cF c43 hvK49
                refine AWp.cdT rfl (by first | rfl | simp only [c43, Bool.not_true, Bool.not_false, cond_true, cond_false]) ?_
                obtain ⟨l44, e45, hvK49⟩ := bindS hvK49
                obtain ⟨f46, f47⟩ := apI e45
                refine AWp.rg hT hA { tk := [40, 43] } (by (repeat (cbv; simp only [c43, f46, f47])); first | done | cbv) (lb rfl) ?_
                cases soI hvK49
                exact oNi ⟨rfl, (by first | (cbv; done) | ((repeat (cbv; simp only [c43])); first | done | cbv))⟩
            · rintro _ rfl
              refine nB ?_
              refine nT ?_
              refine AWp.rg hT hA {} (by cbv) (lb rfl) ?_
              exact nT ⟨_, (soI hsK51).symm, rfl, (by cbv)⟩
        · replace hsK51 := cF c31 hsK51
          refine AWp.cdF rfl (by first | rfl | simp only [c31, Bool.not_true, Bool.not_false, cond_true, cond_false]) ?_
          refine AWp.exit ?_
          refine xT ?_
          refine xT ?_
          refine exL hsK51 fun hx => ?_
          subst hx
          exact oxI ⟨rfl, _, hkK51, (by first | (cbv; done) | ((repeat (cbv; simp only [c31])); first | done | cbv))⟩
      · rintro _ ⟨v50, hkK51, rfl⟩
        have h := (hK51 _ hkK51)
        refine xB ?_
        refine nT ?_
        refine AWp.seq ?_
        refine AWp.rg hT hA { tk := [46] } (by cbv) (lb rfl) ?_
        refine nT ?_
        refine AWp.ret ?_
        cases soI h
        exact ⟨rfl, rfl, rfl, lb rfl, _, rfl⟩
    · replace h := cF c9 h
      refine AWp.cdT rfl (by first | rfl | simp only [c6, c9, Bool.not_true, Bool.not_false, cond_true, cond_false]) ?_
      refine AWp.seq ?_
      refine AWp.rg hT hA { tk := [18], nl := [18] } (by (repeat (cbv; simp only [c6, c9])); first | done | cbv) (lb rfl) ?_
      refine nT ?_
      refine AWp.ret ?_
      refine rB ?_
      refine rT ?_
      cases soI h
      exact ⟨rfl, rfl, rfl, lb rfl, _, rfl⟩
  · replace h := cF c6 h
    refine AWp.cdT rfl (by first | rfl | simp only [c6, Bool.not_true, Bool.not_false, cond_true, cond_false]) ?_
    refine AWp.seq ?_
    refine AWp.rg hT hA { tk := [13], nl := [13] } (by (repeat (cbv; simp only [c6])); first | done | cbv) (lb rfl) ?_
    refine nT ?_
    refine AWp.ret ?_
    refine rB ?_
    refine rT ?_
    cases soI h
    exact ⟨rfl, rfl, rfl, lb rfl, _, rfl⟩

theorem R99w {A : Ar} (hA : A = Ar.std) {x1 : List D} {x2 : Int} {x3 : Int} {x4 : List D} {x5 : List D} {v138 : Bool} (h : R99 A x1 x2 x3 x4 x5 = some v138) : ACall Try.prog 99 [(.d (.agg x1)), (.ptr 0 0), (.ptr 1 0), (.d (.int .i64 x2)), (.d (.int .i64 x3))] [(.arr 1 x4), (.arr 1 x5)] (.d (.bool v138)) [(.arr 1 x4), (.arr 1 x5)] := by
  unfold R99 at h
  refine ACall.enter hT (fn := Try.f99) Try.func99 rfl (by decide) (by simp [Try.f99]) rfl rfl rfl rfl (lb rfl) ?_
  refine AWp.seq ?_
  obtain ⟨_, e7, h⟩ := bindS h
  have f6 := ckI e7
  refine AWp.rg hT hA { arr := [5] } (by (repeat (cbv; simp only [f6])); first | done | cbv) (lb rfl) ?_
  refine nT ?_
  refine AWp.seq ?_
  refine AWp.seq ?_
  refine AWp.rg hT hA {} (by cbv) (lb rfl) ?_
  refine nT ?_
  refine AWp.block ?_
  obtain ⟨xK137, hxK137, K137, hK137, hkK137⟩ := bindK h
  refine AWp.cutX 0 [] [] 3 (lb rfl) (fun τ => K137 (.inl ()) = some v138 ∧ τ = { env := [], heap := [(.arr 1 x4), (.arr 1 x5), (.arr 1 x1)], n := 46 }) ?_ ?_
  · skip
    refine AWp.iter hxK137 [1, 2, 3, 4, 5, 14] [] 3 (lb rfl) (fun v72 => { env := [(1, (.ptr 0 0)), (2, (.ptr 1 0)), (3, (.d (.int .i64 x2))), (4, (.d (.int .i64 x3))), (5, (.ptr 2 0)), (14, (.d (.int .i64 v72)))], heap := [(.arr 1 x4), (.arr 1 x5), (.arr 1 x1)], n := 46 }) ⟨rfl, (by cbv)⟩ ?_
    rintro v72 eK137 hsK137
    dsimp only [R99L1] at hsK137
    refine AWp.seq ?_
    refine AWp.rg hT hA {} (by cbv) (lb rfl) ?_
    refine nT ?_
    refine AWp.seq ?_
    rcases tf (A.zlt v72 4) with c73 | c73
    · replace hsK137 := cT c73 hsK137
      refine AWp.cdT rfl (by first | rfl | simp only [c73, Bool.not_true, Bool.not_false, cond_true, cond_false]) ?_
      refine AWp.skip ?_
      refine nT ?_
      refine AWp.seq ?_
      refine AWp.block ?_
      refine AWp.seq ?_
      refine AWp.rg hT hA {} (by (repeat (cbv; simp only [c73])); first | done | cbv) (lb rfl) ?_
      refine nT ?_
      refine AWp.seq ?_
      refine AWp.region ?_
      obtain ⟨_, e74, hsK137⟩ := bindS hsK137
      have f76 := ckI e74
      obtain ⟨_, e75, hsK137⟩ := bindS hsK137
      have f77 := ckI e75
      obtain ⟨_, e78, hsK137⟩ := bindS hsK137
      have f80 := ckI e78
      obtain ⟨_, e79, hsK137⟩ := bindS hsK137
      have f81 := ckI e79
      obtain ⟨a82, e83, hsK137⟩ := bindS hsK137
      have f84 := gcI e83
      obtain ⟨r86, e85, hsK137⟩ := bindS hsK137
      refine AOps.cc hT hA {} (by (repeat (cbv; simp only [c73, f76, f77, f80, f81, f84])); first | done | cbv) (lb rfl) (R76w hA e85) rfl (.inr rfl) rfl rfl rfl (lb rfl) rfl rfl ?_
      refine AOps.cd hT hA {} (by (repeat (cbv; simp only [c73, f76, f77, f80, f81, f84])); first | done | cbv) (lb rfl) ?_
      refine nT ?_
      refine AWp.block ?_
      obtain ⟨xK136, hxK136, K136, hK136, hkK136⟩ := bindK hsK137
      refine AWp.cutX 2 [1, 2, 3, 4, 5, 14] [] 3 (lb rfl) (fun τ => K136 (.inl ()) = some eK137 ∧ τ = { env := [(1, (.ptr 0 0)), (2, (.ptr 1 0)), (3, (.d (.int .i64 x2))), (4, (.d (.int .i64 x3))), (5, (.ptr 2 0)), (14, (.d (.int .i64 v72)))], heap := [(.arr 1 x4), (.arr 1 x5), (.arr 1 x1)], n := 46 }) ?_ ?_
      · skip
        refine AWp.iter hxK136 [1, 2, 3, 4, 5, 11, 14, 25, 26, 27] [] 3 (lb rfl) (fun v111 => { env := [(1, (.ptr 0 0)), (2, (.ptr 1 0)), (3, (.d (.int .i64 x2))), (4, (.d (.int .i64 x3))), (5, (.ptr 2 0)), (11, (.d (.int .i64 v72))), (14, (.d (.int .i64 v72))), (25, (.own 1 r86)), (26, (.d (.int .i64 (A.len r86)))), (27, (.d (.int .i64 v111)))], heap := [(.arr 1 x4), (.arr 1 x5), (.arr 1 x1)], n := 46 }) ⟨rfl, (by first | (cbv; done) | ((repeat (cbv; simp only [c73])); first | done | cbv))⟩ ?_
        rintro v111 eK136 hsK136
        dsimp only [R99L0] at hsK136
        refine AWp.seq ?_
        refine AWp.rg hT hA {} (by cbv) (lb rfl) ?_
        refine nT ?_
        refine AWp.seq ?_
        rcases tf (A.zlt v111 (A.len r86)) with c112 | c112
        · replace hsK136 := cT c112 hsK136
          refine AWp.cdT rfl (by first | rfl | simp only [c112, Bool.not_true, Bool.not_false, cond_true, cond_false]) ?_
          refine AWp.skip ?_
          refine nT ?_
          refine AWp.seq ?_
          refine AWp.block ?_
          refine AWp.seq ?_
          obtain ⟨a113, e114, hsK136⟩ := bindS hsK136
          obtain ⟨f115, f116⟩ := gtI e114
          refine AWp.rg hT hA {} (by (repeat (cbv; simp only [c112, f115, f116])); first | done | cbv) (lb rfl) ?_
          refine nT ?_
          refine AWp.seq ?_
          obtain ⟨_, e117, hsK136⟩ := bindS hsK136
          have f119 := ckI e117
          obtain ⟨_, e118, hsK136⟩ := bindS hsK136
          have f120 := ckI e118
          obtain ⟨a121, e122, hsK136⟩ := bindS hsK136
          have f123 := gcI e122
          obtain ⟨_, e124, hsK136⟩ := bindS hsK136
          have f126 := ckI e124
          obtain ⟨_, e125, hsK136⟩ := bindS hsK136
          have f127 := ckI e125
          obtain ⟨_, e128, hsK136⟩ := bindS hsK136
          have f130 := ckI e128
          obtain ⟨_, e129, hsK136⟩ := bindS hsK136
          have f131 := ckI e129
          obtain ⟨a132, e133, hsK136⟩ := bindS hsK136
          have f134 := gcI e133
          refine AWp.rd hT hA {} rfl (by (repeat (cbv; simp only [c112, f119, f120, f123, f126, f127, f130, f131, f134])); first | done | cbv) (by kernel_rfl) (lb rfl) ?_
          refine nT ?_
          rcases tf (A.zeq (A.bits .and .u8 a121 a132) 0) with c135 | c135
          · replace hsK136 := cT c135 hsK136
            refine AWp.cdT rfl (by first | rfl | simp only [c112, c135, Bool.not_true, Bool.not_false, cond_true, cond_false]) ?_
            refine AWp.seq ?_
            refine AWp.rg hT hA {} (by (repeat (cbv; simp only [c112, c135])); first | done | cbv) (lb rfl) ?_
            refine nT ?_
            refine AWp.ret ?_
            refine rB ?_
            refine rT ?_
            refine rT ?_
            refine exL hsK136 fun hx => ?_
            subst hx
            refine oxR ?_
            replace hkK136 := (eR (hK136 _ hkK136))
            refine rB ?_
            refine rB ?_
            refine rT ?_
            refine rT ?_
            refine exL hkK136 fun hx => ?_
            subst hx
            refine oxR ?_
            replace hkK137 := (eR (hK137 _ hkK137))
            refine rB ?_
            refine rT ?_
            cases soI hkK137
            exact ⟨rfl, rfl, rfl, lb rfl, _, rfl⟩
          · replace hsK136 := cF c135 hsK136
            refine AWp.cdF rfl (by first | rfl | simp only [c112, c135, Bool.not_true, Bool.not_false, cond_true, cond_false]) ?_
            refine AWp.skip ?_
            refine nB ?_
            refine nT ?_
            refine AWp.rg hT hA {} (by (repeat (cbv; simp only [c112, c135])); first | done | cbv) (lb rfl) ?_
            exact nT ⟨_, (soI hsK136).symm, rfl, (by first | (cbv; done) | ((repeat (cbv; simp only [c112, c135])); first | done | cbv))⟩
        · replace hsK136 := cF c112 hsK136
          refine AWp.cdF rfl (by first | rfl | simp only [c112, Bool.not_true, Bool.not_false, cond_true, cond_false]) ?_
          refine AWp.exit ?_
          refine xT ?_
          refine xT ?_
          refine exL hsK136 fun hx => ?_
          subst hx
          exact oxI ⟨rfl, hkK136, (by first | (cbv; done) | ((repeat (cbv; simp only [c112])); first | done | cbv))⟩
      · rintro _ ⟨hkK136, rfl⟩
        have hsK137 := (eL (hK136 _ hkK136))
        refine xB ?_
        refine nB ?_
        refine nT ?_
        refine AWp.rg hT hA {} (by cbv) (lb rfl) ?_
        exact nT ⟨_, (soI hsK137).symm, rfl, (by cbv)⟩
    · replace hsK137 := cF c73 hsK137
      refine AWp.cdF rfl (by first | rfl | simp only [c73, Bool.not_true, Bool.not_false, cond_true, cond_false]) ?_
      refine AWp.exit ?_
      refine xT ?_
      refine xT ?_
      refine exL hsK137 fun hx => ?_
      subst hx
      exact oxI ⟨rfl, hkK137, (by first | (cbv; done) | ((repeat (cbv; simp only [c73])); first | done | cbv))⟩
  · rintro _ ⟨hkK137, rfl⟩
    have h := (eL (hK137 _ hkK137))
    refine xB ?_
    refine nT ?_
    refine AWp.seq ?_
    refine AWp.rg hT hA {} (by cbv) (lb rfl) ?_
    refine nT ?_
    refine AWp.ret ?_
    cases soI h
    exact ⟨rfl, rfl, rfl, lb rfl, _, rfl⟩

theorem R90w {A : Ar} (hA : A = Ar.std) {x1 : List D} {x2 : List D} {v382 : List D} (h : R90 A x1 x2 = some v382) : ACall Try.prog 90 [(.ptr 0 0), (.ptr 1 0)] [(.arr 1 x1), (.arr 1 x2)] (.d (.agg v382)) [(.arr 1 x1), (.arr 1 x2)] := by
  unfold R90 at h
  refine ACall.enter hT (fn := Try.f90) Try.func90 rfl (by decide) (by simp [Try.f90]) rfl rfl rfl rfl (lb rfl) ?_
  refine AWp.seq ?_
  refine AWp.rg hT hA { arr := [4] } (by cbv) (lb rfl) ?_
  refine nT ?_
  refine AWp.seq ?_
  refine AWp.rg hT hA { arr := [5] } (by cbv) (lb rfl) ?_
  refine nT ?_
  refine AWp.seq ?_
  refine AWp.seq ?_
  obtain ⟨a3, e4, h⟩ := bindS h
  have f5 := gcI e4
  refine AWp.rg hT hA {} (by (repeat (cbv; simp only [f5])); first | done | cbv) (lb rfl) ?_
  refine nT ?_
  refine AWp.block ?_
  obtain ⟨xK33, hxK33, K33, hK33, hkK33⟩ := bindK h
  refine AWp.cutX 0 [0, 1, 4, 5] [] 4 (lb rfl) (fun τ => ∃ v32, K33 v32 = some v382 ∧ τ = { env := [(0, (.ptr 0 0)), (1, (.ptr 1 0)), (4, (.ptr 2 0)), (5, (.ptr 3 0))], heap := [(.arr 1 x1), (.arr 1 x2), (.arr 1 (A.rep (Int.ofNat 6) (.int .u8 0))), (.arr 1 v32)], n := 64 }) ?_ ?_
  · skip
    refine AWp.iter hxK33 [0, 1, 4, 5, 15, 16] [] 4 (lb rfl) (fun (v18, v19) => { env := [(0, (.ptr 0 0)), (1, (.ptr 1 0)), (4, (.ptr 2 0)), (5, (.ptr 3 0)), (15, (.d (.int .i64 a3))), (16, (.d (.int .i64 v18)))], heap := [(.arr 1 x1), (.arr 1 x2), (.arr 1 (A.rep (Int.ofNat 6) (.int .u8 0))), (.arr 1 v19)], n := 64 }) ⟨rfl, (by cbv)⟩ ?_
    rintro ⟨v18, v19⟩ eK33 hsK33
    dsimp only [R90L0] at hsK33
    refine AWp.seq ?_
    refine AWp.rg hT hA {} (by cbv) (lb rfl) ?_
    refine nT ?_
    refine AWp.seq ?_
    rcases tf (A.zlt v18 a3) with c20 | c20
    · replace hsK33 := cT c20 hsK33
      refine AWp.cdT rfl (by first | rfl | simp only [c20, Bool.not_true, Bool.not_false, cond_true, cond_false]) ?_
      refine AWp.skip ?_
      refine nT ?_
      refine AWp.seq ?_
      refine AWp.block ?_
      refine AWp.seq ?_
      refine AWp.rg hT hA {} (by (repeat (cbv; simp only [c20])); first | done | cbv) (lb rfl) ?_
      refine nT ?_
      obtain ⟨a21, e22, hsK33⟩ := bindS hsK33
      have f23 := gcI e22
      obtain ⟨_, e24, hsK33⟩ := bindS hsK33
      have f25 := nkI e24
      obtain ⟨_, e26, hsK33⟩ := bindS hsK33
      have f28 := ckI e26
      obtain ⟨_, e27, hsK33⟩ := bindS hsK33
      have f29 := ckI e27
      obtain ⟨d30, e31, hsK33⟩ := bindS hsK33
      refine AWp.rg hT hA { tk := [26] } (by (repeat (cbv; simp only [c20, f23, f25, f28, f29, e31])); first | done | cbv) (lb rfl) ?_
      refine nB ?_
      refine nT ?_
      refine AWp.rg hT hA {} (by (repeat (cbv; simp only [c20])); first | done | cbv) (lb rfl) ?_
      exact nT ⟨_, (soI hsK33).symm, rfl, (by first | (cbv; done) | ((repeat (cbv; simp only [c20])); first | done | cbv))⟩
    · replace hsK33 := cF c20 hsK33
      refine AWp.cdF rfl (by first | rfl | simp only [c20, Bool.not_true, Bool.not_false, cond_true, cond_false]) ?_
      refine AWp.exit ?_
      refine xT ?_
      refine xT ?_
      refine exL hsK33 fun hx => ?_
      subst hx
      exact oxI ⟨rfl, _, hkK33, (by first | (cbv; done) | ((repeat (cbv; simp only [c20])); first | done | cbv))⟩
  · rintro _ ⟨v32, hkK33, rfl⟩
    have h := (hK33 _ hkK33)
    refine xB ?_
    refine nT ?_
    refine AWp.seq ?_
    refine AWp.seq ?_
    refine AWp.rg hT hA {} (by cbv) (lb rfl) ?_
    refine nT ?_
    refine AWp.block ?_
    obtain ⟨xK368, hxK368, K368, hK368, hkK368⟩ := bindK h
    refine AWp.cutX 2 [4, 5] [] 4 (lb rfl) (fun τ => ∃ v367, K368 v367 = some v382 ∧ τ = { env := [(4, (.ptr 2 0)), (5, (.ptr 3 0))], heap := [(.arr 1 x1), (.arr 1 x2), (.arr 1 (A.rep (Int.ofNat 6) (.int .u8 0))), (.arr 1 v367)], n := 64 }) ?_ ?_
    · skip
      refine AWp.iter hxK368 [0, 1, 4, 5, 7] [] 4 (lb rfl) (fun (v199, v200) => { env := [(0, (.ptr 0 0)), (1, (.ptr 1 0)), (4, (.ptr 2 0)), (5, (.ptr 3 0)), (7, (.d (.bool v199)))], heap := [(.arr 1 x1), (.arr 1 x2), (.arr 1 (A.rep (Int.ofNat 6) (.int .u8 0))), (.arr 1 v200)], n := 64 }) ⟨rfl, (by cbv)⟩ ?_
      rintro ⟨v199, v200⟩ eK368 hsK368
      dsimp only [R90L3] at hsK368
      refine AWp.seq ?_
      refine AWp.seq ?_
      refine AWp.rg hT hA {} (by cbv) (lb rfl) ?_
      refine nT ?_
      rcases tf v199 with c201 | c201
      · replace hsK368 := cT c201 hsK368
        refine AWp.cdT rfl (by first | rfl | simp only [c201, Bool.not_true, Bool.not_false, cond_true, cond_false]) ?_
        refine AWp.skip ?_
        refine nT ?_
        refine AWp.block ?_
        refine AWp.seq ?_
        refine AWp.rg hT hA {} (by (repeat (cbv; simp only [c201])); first | done | cbv) (lb rfl) ?_
        refine nT ?_
        refine AWp.seq ?_
        obtain ⟨a202, e203, hsK368⟩ := bindS hsK368
        have f204 := gcI e203
        refine AWp.rg hT hA {} (by (repeat (cbv; simp only [c201, f204])); first | done | cbv) (lb rfl) ?_
        refine nT ?_
        refine AWp.block ?_
        obtain ⟨xK366, hxK366, K366, hK366, hkK366⟩ := bindK hsK368
        refine AWp.cutX 4 [0, 1, 4, 5, 7] [] 4 (lb rfl) (fun τ => ∃ v364 v365, K366 (v364, v365) = some eK368 ∧ τ = { env := [(0, (.ptr 0 0)), (1, (.ptr 1 0)), (4, (.ptr 2 0)), (5, (.ptr 3 0)), (7, (.d (.bool v364)))], heap := [(.arr 1 x1), (.arr 1 x2), (.arr 1 (A.rep (Int.ofNat 6) (.int .u8 0))), (.arr 1 v365)], n := 64 }) ?_ ?_
        · skip
          refine AWp.iter hxK366 [0, 1, 4, 5, 7, 34, 35] [] 4 (lb rfl) (fun (v283, v284, v285) => { env := [(0, (.ptr 0 0)), (1, (.ptr 1 0)), (4, (.ptr 2 0)), (5, (.ptr 3 0)), (7, (.d (.bool v283))), (34, (.d (.int .i64 a202))), (35, (.d (.int .i64 v284)))], heap := [(.arr 1 x1), (.arr 1 x2), (.arr 1 (A.rep (Int.ofNat 6) (.int .u8 0))), (.arr 1 v285)], n := 64 }) ⟨rfl, (by first | (cbv; done) | ((repeat (cbv; simp only [c201])); first | done | cbv))⟩ ?_
          rintro ⟨v283, v284, v285⟩ eK366 hsK366
          dsimp only [R90L2] at hsK366
          refine AWp.seq ?_
          refine AWp.rg hT hA {} (by cbv) (lb rfl) ?_
          refine nT ?_
          refine AWp.seq ?_
          rcases tf (A.zlt v284 a202) with c286 | c286
          · replace hsK366 := cT c286 hsK366
            refine AWp.cdT rfl (by first | rfl | simp only [c286, Bool.not_true, Bool.not_false, cond_true, cond_false]) ?_
            refine AWp.skip ?_
            refine nT ?_
            refine AWp.seq ?_
            refine AWp.block ?_
            refine AWp.seq ?_
            refine AWp.rg hT hA {} (by (repeat (cbv; simp only [c286])); first | done | cbv) (lb rfl) ?_
            refine nT ?_
            refine AWp.seq ?_
            refine AWp.region ?_
            obtain ⟨_, e287, hsK366⟩ := bindS hsK366
            have f289 := ckI e287
            obtain ⟨_, e288, hsK366⟩ := bindS hsK366
            have f290 := ckI e288
            obtain ⟨a291, e292, hsK366⟩ := bindS hsK366
            have f293 := gcI e292
            obtain ⟨r295, e294, hsK366⟩ := bindS hsK366
            refine AOps.cc hT hA {} (by (repeat (cbv; simp only [c286, f289, f290, f293])); first | done | cbv) (lb rfl) (R76w hA e294) rfl (.inr rfl) rfl rfl rfl (lb rfl) rfl rfl ?_
            refine AOps.cd hT hA {} (by (repeat (cbv; simp only [c286, f289, f290, f293])); first | done | cbv) (lb rfl) ?_
            refine nT ?_
            refine AWp.block ?_
            obtain ⟨xK363, hxK363, K363, hK363, hkK363⟩ := bindK hsK366
            refine AWp.cutX 6 [0, 1, 4, 5, 7, 34, 35] [] 4 (lb rfl) (fun τ => ∃ v361 v362, K363 (v361, v362) = some eK366 ∧ τ = { env := [(0, (.ptr 0 0)), (1, (.ptr 1 0)), (4, (.ptr 2 0)), (5, (.ptr 3 0)), (7, (.d (.bool v361))), (34, (.d (.int .i64 a202))), (35, (.d (.int .i64 v284)))], heap := [(.arr 1 x1), (.arr 1 x2), (.arr 1 (A.rep (Int.ofNat 6) (.int .u8 0))), (.arr 1 v362)], n := 64 }) ?_ ?_
            · skip
              refine AWp.iter hxK363 [0, 1, 4, 5, 7, 8, 34, 35, 41, 42, 43] [] 4 (lb rfl) (fun (v327, v328, v329) => { env := [(0, (.ptr 0 0)), (1, (.ptr 1 0)), (4, (.ptr 2 0)), (5, (.ptr 3 0)), (7, (.d (.bool v327))), (8, (.d (.int .i64 v284))), (34, (.d (.int .i64 a202))), (35, (.d (.int .i64 v284))), (41, (.own 1 r295)), (42, (.d (.int .i64 (A.len r295)))), (43, (.d (.int .i64 v328)))], heap := [(.arr 1 x1), (.arr 1 x2), (.arr 1 (A.rep (Int.ofNat 6) (.int .u8 0))), (.arr 1 v329)], n := 64 }) ⟨rfl, (by first | (cbv; done) | ((repeat (cbv; simp only [c286])); first | done | cbv))⟩ ?_
              rintro ⟨v327, v328, v329⟩ eK363 hsK363
              dsimp only [R90L1] at hsK363
              refine AWp.seq ?_
              refine AWp.rg hT hA {} (by cbv) (lb rfl) ?_
              refine nT ?_
              refine AWp.seq ?_
              rcases tf (A.zlt v328 (A.len r295)) with c330 | c330
              · replace hsK363 := cT c330 hsK363
                refine AWp.cdT rfl (by first | rfl | simp only [c330, Bool.not_true, Bool.not_false, cond_true, cond_false]) ?_
                refine AWp.skip ?_
                refine nT ?_
                refine AWp.seq ?_
                refine AWp.block ?_
                refine AWp.seq ?_
                obtain ⟨a331, e332, hsK363⟩ := bindS hsK363
                obtain ⟨f333, f334⟩ := gtI e332
                refine AWp.rg hT hA {} (by (repeat (cbv; simp only [c330, f333, f334])); first | done | cbv) (lb rfl) ?_
                refine nT ?_
                refine AWp.seq ?_
                refine AWp.region ?_
                obtain ⟨l339, e335, hsK363⟩ := bindS hsK363
                obtain ⟨f336, f337, f338⟩ := gaI e335
                obtain ⟨r341, e340, hsK363⟩ := bindS hsK363
                refine AOps.cc hT hA {} (by (repeat (cbv; simp only [c330, f336, f337, f338, f336, f337, f338])); first | done | cbv) (lb rfl) (R99w hA e340) rfl (.inr rfl) rfl rfl rfl (lb rfl) rfl rfl ?_
                refine AOps.cd hT hA {} (by (repeat (cbv; simp only [c330, f336, f337, f338, f336, f337, f338])); first | done | cbv) (lb rfl) ?_
                refine nT ?_
                obtain ⟨⟨v358, v359⟩, hvK360, hsK363⟩ := bindS hsK363
                refine AWp.cutN [0, 1, 4, 5, 7, 8, 34, 35, 41, 42, 43] [] 4 (lb rfl) (fun τ => τ = { env := [(0, (.ptr 0 0)), (1, (.ptr 1 0)), (4, (.ptr 2 0)), (5, (.ptr 3 0)), (7, (.d (.bool v358))), (8, (.d (.int .i64 v284))), (34, (.d (.int .i64 a202))), (35, (.d (.int .i64 v284))), (41, (.own 1 r295)), (42, (.d (.int .i64 (A.len r295)))), (43, (.d (.int .i64 v328)))], heap := [(.arr 1 x1), (.arr 1 x2), (.arr 1 (A.rep (Int.ofNat 6) (.int .u8 0))), (.arr 1 v359)], n := 64 }) ?_ ?_
                · skip
                  rcases tf r341 with c342 | c342
                  · replace hvK360 := cT c342 hvK360
                    refine AWp.cdF rfl (by first | rfl | simp only [c330, f336, f337, f338, c342, Bool.not_true, Bool.not_false, cond_true, cond_false]) ?_
                    refine AWp.skip ?_
                    cases soI hvK360
                    exact oNi ⟨rfl, (by first | (cbv; done) | ((repeat (cbv; simp only [c330, f336, f337, f338, c342])); first | done | cbv))⟩
                  · replace hvK360 := cF c342 hvK360
                    refine AWp.cdT rfl (by first | rfl | simp only [c330, f336, f337, f338, c342, Bool.not_true, Bool.not_false, cond_true, cond_false]) ?_
                    refine AWp.seq ?_
                    obtain ⟨_, e343, hvK360⟩ := bindS hvK360
                    have f345 := ckI e343
                    obtain ⟨_, e344, hvK360⟩ := bindS hvK360
                    have f346 := ckI e344
                    obtain ⟨a347, e348, hvK360⟩ := bindS hvK360
                    have f349 := gcI e348
                    obtain ⟨_, e350, hvK360⟩ := bindS hvK360
                    have f351 := nkI e350
                    obtain ⟨_, e352, hvK360⟩ := bindS hvK360
                    have f354 := ckI e352
                    obtain ⟨_, e353, hvK360⟩ := bindS hvK360
                    have f355 := ckI e353
                    obtain ⟨d356, e357, hvK360⟩ := bindS hvK360
                    refine AWp.rd hT hA { tk := [59] } rfl (by (repeat (cbv; simp only [c330, f336, f337, f338, c342, f345, f346, f349, f351, f354, f355, e357])); first | done | cbv) (by kernel_rfl) (lb rfl) ?_
                    refine nT ?_
                    refine AWp.rg hT hA {} (by (repeat (cbv; simp only [c330, f336, f337, f338, c342])); first | done | cbv) (lb rfl) ?_
                    cases soI hvK360
                    exact oNi ⟨rfl, (by first | (cbv; done) | ((repeat (cbv; simp only [c330, f336, f337, f338, c342])); first | done | cbv))⟩
                · rintro _ rfl
                  refine nB ?_
                  refine nT ?_
                  refine AWp.rg hT hA {} (by cbv) (lb rfl) ?_
                  exact nT ⟨_, (soI hsK363).symm, rfl, (by cbv)⟩
              · replace hsK363 := cF c330 hsK363
                refine AWp.cdF rfl (by first | rfl | simp only [c330, Bool.not_true, Bool.not_false, cond_true, cond_false]) ?_
                refine AWp.exit ?_
                refine xT ?_
                refine xT ?_
                refine exL hsK363 fun hx => ?_
                subst hx
                exact oxI ⟨rfl, _, _, hkK363, (by first | (cbv; done) | ((repeat (cbv; simp only [c330])); first | done | cbv))⟩
            · rintro _ ⟨v361, v362, hkK363, rfl⟩
              have hsK366 := (hK363 _ hkK363)
              refine xB ?_
              refine nB ?_
              refine nT ?_
              refine AWp.rg hT hA {} (by cbv) (lb rfl) ?_
              exact nT ⟨_, (soI hsK366).symm, rfl, (by cbv)⟩
          · replace hsK366 := cF c286 hsK366
            refine AWp.cdF rfl (by first | rfl | simp only [c286, Bool.not_true, Bool.not_false, cond_true, cond_false]) ?_
            refine AWp.exit ?_
            refine xT ?_
            refine xT ?_
            refine exL hsK366 fun hx => ?_
            subst hx
            exact oxI ⟨rfl, _, _, hkK366, (by first | (cbv; done) | ((repeat (cbv; simp only [c286])); first | done | cbv))⟩
        · rintro _ ⟨v364, v365, hkK366, rfl⟩
          have hsK368 := (hK366 _ hkK366)
          refine xB ?_
          refine nB ?_
          exact nT ⟨_, (soI hsK368).symm, rfl, (by cbv)⟩
      · replace hsK368 := cF c201 hsK368
        refine AWp.cdF rfl (by first | rfl | simp only [c201, Bool.not_true, Bool.not_false, cond_true, cond_false]) ?_
        refine AWp.exit ?_
        refine xT ?_
        refine xT ?_
        refine exL hsK368 fun hx => ?_
        subst hx
        exact oxI ⟨rfl, _, hkK368, (by first | (cbv; done) | ((repeat (cbv; simp only [c201])); first | done | cbv))⟩
    · rintro _ ⟨v367, hkK368, rfl⟩
      have h := (hK368 _ hkK368)
      refine xB ?_
      refine nT ?_
      refine AWp.seq ?_
      obtain ⟨l373, e369, h⟩ := bindS h
      obtain ⟨f370, f371, f372⟩ := gaI e369
      obtain ⟨_, e377, h⟩ := bindS h
      have f376 := ckI e377
      obtain ⟨_, e374, h⟩ := bindS h
      have f375 := ckI e374
      refine AWp.rg hT hA { tk := [63] } (by (repeat (cbv; simp only [f370, f371, f372, f370, f371, f372, f375, f376])); first | done | cbv) (lb rfl) ?_
      refine nT ?_
      obtain ⟨_, e378, h⟩ := bindS h
      have f380 := ckI e378
      obtain ⟨_, e379, h⟩ := bindS h
      have f381 := ckI e379
      refine AWp.ret ?_
      cases soI h
      exact ⟨(rs1 (resCk rfl rfl rfl rfl (lnN hA (by assumption)) (onN hA (by assumption)))), rfl, rfl, lb rfl, _, rfl⟩

theorem R91w {A : Ar} (hA : A = Ar.std) {x1 : Int} {x2 : Int} {v5 : Bool} (h : R91 A x1 x2 = some v5) : ACall Try.prog 91 [(.d (.int .u8 x1)), (.d (.int .i64 x2))] [] (.d (.bool v5)) [] := by
  unfold R91 at h
  refine ACall.enter hT (fn := Try.f91) Try.func91 rfl (by decide) (by simp [Try.f91]) rfl rfl rfl rfl (lb rfl) ?_
  refine AWp.seq ?_
  refine AWp.rg hT hA {} (by cbv) (lb rfl) ?_
  refine nT ?_
  refine AWp.seq ?_
  obtain ⟨_, e3, h⟩ := bindS h
  have f4 := nkI e3
  refine AWp.rg hT hA { tk := [9] } (by (repeat (cbv; simp only [f4])); first | done | cbv) (lb rfl) ?_
  refine nT ?_
  refine AWp.ret ?_
  cases soI h
  exact ⟨rfl, rfl, rfl, lb rfl, _, rfl⟩

theorem R44w {A : Ar} (hA : A = Ar.std) {x1 : Int} {x2 : List D} {x3 : Int} {x4 : List D} {v20 : Bool} {v21 : Int} (h : R44 A x1 x2 x3 x4 = some (v20, v21)) : ACall Try.prog 44 [(.d (.agg [(.int .i64 x1), (.list 3 x2)])), (.d (.agg [(.int .i64 x3), (.list 3 x4)]))] [] (.tuple [(.d (.bool v20)), (.d (.int .i64 v21))]) [] := by
  unfold R44 at h
  refine ACall.enter hT (fn := Try.f44) Try.func44 rfl (by decide) (by simp [Try.f44]) rfl rfl rfl rfl (lb rfl) ?_
  refine AWp.seq ?_
  refine AWp.rg hT hA {} (by cbv) (lb rfl) ?_
  refine nT ?_
  refine AWp.seq ?_
  refine AWp.region ?_
  obtain ⟨q9, e5, h⟩ := bindS h
  rcases q9 with ⟨r6, r7⟩ | r8 | _
  · replace h := (eL h)
    refine AOps.cc hT hA {} (by cbv) (lb rfl) (R70wa hA e5) rfl (.inl rfl) rfl rfl rfl (lb rfl) rfl rfl ?_
    refine AOps.cd hT hA {} (by cbv) (lb rfl) ?_
    refine nT ?_
    refine AWp.seq ?_
    refine AWp.region ?_
    have f10 := zeqF hA (a := 0) (b := 0) (c := true) rfl
    obtain ⟨r12, e11, h⟩ := bindS h
    refine AOps.cc hT hA {} (by (repeat (cbv; simp only [f10])); first | done | cbv) (lb rfl) (R90w hA e11) rfl (.inl rfl) rfl rfl rfl (lb rfl) rfl rfl ?_
    obtain ⟨a14, e13, h⟩ := bindS h
    have f15 := gcI e13
    obtain ⟨r17, e16, h⟩ := bindS h
    refine AOps.cc hT hA {} (by (repeat (cbv; simp only [f10, f15])); first | done | cbv) (lb rfl) (R91w hA e16) rfl (.inr rfl) rfl rfl rfl (lb rfl) rfl rfl ?_
    refine AOps.cd hT hA {} (by (repeat (cbv; simp only [f10, f15])); first | done | cbv) (lb rfl) ?_
    refine nT ?_
    refine AWp.ret ?_
    cases soI h
    exact ⟨rfl, rfl, rfl, lb rfl, _, rfl⟩
  · replace h := (eL (eR h))
    refine AOps.cc hT hA {} (by cbv) (lb rfl) (R70wb hA e5) rfl (.inl rfl) rfl rfl rfl (lb rfl) rfl rfl ?_
    refine AOps.cd hT hA {} (by cbv) (lb rfl) ?_
    refine nT ?_
    refine AWp.seq ?_
    refine AWp.region ?_
    have f18 := zeqF hA (a := 50) (b := 0) (c := false) rfl
    refine AOps.cd hT hA {} (by (repeat (cbv; simp only [f18])); first | done | cbv) (lb rfl) ?_
    refine nT ?_
    refine AWp.ret ?_
    cases soI h
    exact ⟨rfl, rfl, rfl, lb rfl, _, rfl⟩
  · replace h := (eR (eR h))
    refine AOps.cc hT hA {} (by cbv) (lb rfl) (R70wc hA e5) rfl (.inl rfl) rfl rfl rfl (lb rfl) rfl rfl ?_
    refine AOps.cd hT hA {} (by cbv) (lb rfl) ?_
    refine nT ?_
    refine AWp.seq ?_
    refine AWp.region ?_
    have f19 := zeqF hA (a := 50) (b := 0) (c := false) rfl
    refine AOps.cd hT hA {} (by (repeat (cbv; simp only [f19])); first | done | cbv) (lb rfl) ?_
    refine nT ?_
    refine AWp.ret ?_
    cases soI h
    exact ⟨rfl, rfl, rfl, lb rfl, _, rfl⟩

theorem R93w {A : Ar} (hA : A = Ar.std) {x1 : List D} {v12 : List D} (h : R93 A x1 = some v12) : ACall Try.prog 93 [(.d (.list 3 x1))] [] (.own 3 v12) [] := by
  unfold R93 at h
  refine ACall.enter hT (fn := Try.f93) Try.func93 rfl (by decide) (by simp [Try.f93]) rfl rfl rfl rfl (lb rfl) ?_
  refine AWp.seq ?_
  refine AWp.rg hT hA {} (by cbv) (lb rfl) ?_
  refine nT ?_
  refine AWp.seq ?_
  refine AWp.seq ?_
  rcases tf (A.zlt 0 (A.len x1)) with c2 | c2
  · replace h := cT c2 h
    refine AWp.rg hT hA {} (by (repeat (cbv; simp only [c2])); first | done | cbv) (lb rfl) ?_
    refine nT ?_
    refine AWp.cond (b := false) (by cbv; simp only [c2]) ?_
    rw [if_neg Bool.false_ne_true]
    refine AWp.skip ?_
    refine nT ?_
    refine AWp.seq ?_
    obtain ⟨l4, e5, h⟩ := bindS h
    obtain ⟨f6, f7⟩ := apI e5
    refine AWp.rg hT hA { tk := [7] } (by (repeat (cbv; simp only [c2, f6, f7])); first | done | cbv) (lb rfl) ?_
    refine nT ?_
    refine AWp.ret ?_
    cases soI h
    exact ⟨rfl, rfl, rfl, lb rfl, _, rfl⟩
  · replace h := cF c2 h
    refine AWp.rg hT hA {} (by (repeat (cbv; simp only [c2])); first | done | cbv) (lb rfl) ?_
    refine nT ?_
    obtain ⟨hc3a, hc3b⟩ := bothI h
    refine AWp.condAny (by cbv; simp only [c2]) ?_ ?_
    · replace h := hc3a
      refine AWp.seq ?_
      refine AWp.rg hT hA {} (by (repeat (cbv; simp only [c2])); first | done | cbv) (lb rfl) ?_
      refine nT ?_
      refine AWp.ret ?_
      refine rT ?_
      cases soI h
      exact ⟨rfl, rfl, rfl, lb rfl, _, rfl⟩
    · replace h := hc3b
      refine AWp.skip ?_
      refine nT ?_
      refine AWp.seq ?_
      obtain ⟨l8, e9, h⟩ := bindS h
      obtain ⟨f10, f11⟩ := apI e9
      refine AWp.rg hT hA { tk := [7] } (by (repeat (cbv; simp only [c2, f10, f11])); first | done | cbv) (lb rfl) ?_
      refine nT ?_
      refine AWp.ret ?_
      cases soI h
      exact ⟨rfl, rfl, rfl, lb rfl, _, rfl⟩

theorem R92w {A : Ar} (hA : A = Ar.std) {x1 : Int} {x2 : Int} {x3 : Int} {x4 : Int} {x5 : List D} {v41 : Int} {v42 : Int} {v43 : List D} (h : R92 A x1 x2 x3 x4 x5 = some (v41, v42, v43)) : ACall Try.prog 92 [(.mref 0 3 x1 x2), (.d (.int .i64 x3)), (.d (.int .i64 x4))] [(.arr 3 x5)] (.mref 0 3 v41 v42) [(.arr 3 v43)] := by
  unfold R92 at h
  refine ACall.enter hT (fn := Try.f92) Try.func92 rfl (by decide) (by simp [Try.f92]) rfl rfl rfl rfl (lb rfl) ?_
  refine AWp.seq ?_
  refine AWp.rg hT hA {} (by cbv) (lb rfl) ?_
  refine nT ?_
  refine AWp.seq ?_
  obtain ⟨_, e6, h⟩ := bindS h
  have f10 := ckI e6
  obtain ⟨_, e7, h⟩ := bindS h
  have f11 := ckI e7
  obtain ⟨_, e8, h⟩ := bindS h
  have f12 := ckI e8
  obtain ⟨_, e9, h⟩ := bindS h
  have f13 := ckI e9
  refine AWp.rg hT hA {} (by (repeat (cbv; simp only [f10, f11, f12, f13])); first | done | cbv) (lb rfl) ?_
  refine nT ?_
  refine AWp.seq ?_
  refine AWp.seq ?_
  refine AWp.rg hT hA {} (by cbv) (lb rfl) ?_
  refine nT ?_
  rcases tf (A.zeq x3 x4) with c14 | c14
  · replace h := cT c14 h
    refine AWp.cdT rfl (by first | rfl | simp only [c14, Bool.not_true, Bool.not_false, cond_true, cond_false]) ?_
    refine AWp.seq ?_
    refine AWp.rg hT hA { tk := [0, 17] } (by (repeat (cbv; simp only [c14])); first | done | cbv) (lb rfl) ?_
    refine nT ?_
    refine AWp.ret ?_
    refine rT ?_
    cases soI h
    exact ⟨rfl, rfl, rfl, lb rfl, _, rfl⟩
  · replace h := cF c14 h
    refine AWp.cdF rfl (by first | rfl | simp only [c14, Bool.not_true, Bool.not_false, cond_true, cond_false]) ?_
    refine AWp.skip ?_
    refine nT ?_
    refine AWp.seq ?_
    refine AWp.rg hT hA {} (by (repeat (cbv; simp only [c14])); first | done | cbv) (lb rfl) ?_
    refine nT ?_
    refine AWp.seq ?_
    obtain ⟨_, e15, h⟩ := bindS h
    have f18 := ckI e15
    obtain ⟨_, e16, h⟩ := bindS h
    have f19 := ckI e16
    obtain ⟨_, e17, h⟩ := bindS h
    have f20 := ckI e17
    obtain ⟨_, e21, h⟩ := bindS h
    have f24 := ckI e21
    obtain ⟨_, e22, h⟩ := bindS h
    have f25 := ckI e22
    obtain ⟨_, e23, h⟩ := bindS h
    have f26 := ckI e23
    obtain ⟨_, e27, h⟩ := bindS h
    have f30 := ckI e27
    obtain ⟨_, e28, h⟩ := bindS h
    have f31 := ckI e28
    obtain ⟨_, e29, h⟩ := bindS h
    have f32 := ckI e29
    refine AWp.rd hT hA { tk := [26], th := [22] } rfl (by (repeat (cbv; simp only [c14, f18, f19, f20, f24, f25, f26, f30, f31, f32])); first | done | cbv) (by kernel_rfl) (lb rfl) ?_
    refine nT ?_
    refine AWp.seq ?_
    obtain ⟨_, e33, h⟩ := bindS h
    have f36 := ckI e33
    obtain ⟨_, e34, h⟩ := bindS h
    have f37 := ckI e34
    obtain ⟨_, e35, h⟩ := bindS h
    have f38 := ckI e35
    obtain ⟨_, e39, h⟩ := bindS h
    have f40 := ckI e39
    refine AWp.rg hT hA {} (by (repeat (cbv; simp only [c14, f36, f37, f38, f40])); first | done | cbv) (lb rfl) ?_
    refine nT ?_
    refine AWp.seq ?_
    refine AWp.rg hT hA { tk := [0, 32] } (by (repeat (cbv; simp only [c14])); first | done | cbv) (lb rfl) ?_
    refine nT ?_
    refine AWp.uncap (s := 6) rfl ?_
    refine AWp.ret ?_
    cases soI h
    exact ⟨rfl, rfl, rfl, lb rfl, _, rfl⟩

theorem R92aw {A : Ar} (hA : A = Ar.std) {x1 : List D} {x2 : Int} {x3 : Int} {v25 : List D} (h : R92a A x1 x2 x3 = some v25) : ACall Try.prog 92 [(.d (.list 3 x1)), (.d (.int .i64 x2)), (.d (.int .i64 x3))] [] (.d (.list 3 v25)) [] := by
  unfold R92a at h
  refine ACall.enter hT (fn := Try.f92) Try.func92 rfl (by decide) (by simp [Try.f92]) rfl rfl rfl rfl (lb rfl) ?_
  refine AWp.seq ?_
  refine AWp.rg hT hA {} (by cbv) (lb rfl) ?_
  refine nT ?_
  refine AWp.seq ?_
  obtain ⟨l4, e5, h⟩ := bindS h
  obtain ⟨f6, f7, f8, f9⟩ := slI e5
  obtain ⟨_, e10, h⟩ := bindS h
  have f11 := ckI e10
  refine AWp.rg hT hA {} (by (repeat (cbv; simp only [f6, f7, f8, f9, f11])); first | done | cbv) (lb rfl) ?_
  refine nT ?_
  refine AWp.seq ?_
  refine AWp.seq ?_
  refine AWp.rg hT hA {} (by cbv) (lb rfl) ?_
  refine nT ?_
  rcases tf (A.zeq x2 x3) with c12 | c12
  · replace h := cT c12 h
    refine AWp.cdT rfl (by first | rfl | simp only [c12, Bool.not_true, Bool.not_false, cond_true, cond_false]) ?_
    refine AWp.seq ?_
    refine AWp.rg hT hA { tk := [0, 17] } (by (repeat (cbv; simp only [c12])); first | done | cbv) (lb rfl) ?_
    refine nT ?_
    refine AWp.ret ?_
    refine rT ?_
    cases soI h
    exact ⟨rfl, rfl, rfl, lb rfl, _, rfl⟩
  · replace h := cF c12 h
    refine AWp.cdF rfl (by first | rfl | simp only [c12, Bool.not_true, Bool.not_false, cond_true, cond_false]) ?_
    refine AWp.skip ?_
    refine nT ?_
    refine AWp.seq ?_
    refine AWp.rg hT hA {} (by (repeat (cbv; simp only [c12])); first | done | cbv) (lb rfl) ?_
    refine nT ?_
    refine AWp.seq ?_
    obtain ⟨l13, e14, h⟩ := bindS h
    obtain ⟨f15, f16, f17, f18⟩ := slI e14
    obtain ⟨l19, e20, h⟩ := bindS h
    obtain ⟨f21, f22, f23, f24⟩ := slI e20
    cases h

theorem R45w {A : Ar} (hA : A = Ar.std) {x1 : Int} {x2 : List D} {x3 : Int} {v27 : Int} {v28 : List D} {v29 : Int} (h : R45 A x1 x2 x3 = some (v27, v28, v29)) : ACall Try.prog 45 [(.d (.agg [(.int .i64 x1), (.list 3 x2)])), (.d (.int .i64 x3))] [] (.tuple [(.d (.agg [(.int .i64 v27), (.list 3 v28)])), (.d (.int .i64 v29))]) [] := by
  unfold R45 at h
  refine ACall.enter hT (fn := Try.f45) Try.func45 rfl (by decide) (by simp [Try.f45]) rfl rfl rfl rfl (lb rfl) ?_
  refine AWp.seq ?_
  refine AWp.rg hT hA {} (by cbv) (lb rfl) ?_
  refine nT ?_
  refine AWp.seq ?_
  refine AWp.block ?_
  refine AWp.seq ?_
  refine AWp.region ?_
  obtain ⟨r5, e4, h⟩ := bindS h
  refine AOps.cc hT hA {} (by cbv) (lb rfl) (R33w hA e4) rfl (.inl rfl) rfl rfl rfl (lb rfl) rfl rfl ?_
  refine AOps.cd hT hA {} (by cbv) (lb rfl) ?_
  refine nT ?_
  rcases tf r5 with c6 | c6
  · replace h := cT c6 h
    refine AWp.cdF rfl (by first | rfl | simp only [c6, Bool.not_true, Bool.not_false, cond_true, cond_false]) ?_
    refine AWp.seq ?_
    obtain ⟨v8, hvK9, h⟩ := bindS h
    refine AWp.cutN [1, 2, 4, 11] [] 0 (lb rfl) (fun τ => τ = { env := [(1, (.d (.int .i64 x3))), (2, (.lbox [(.d (.int .i64 x1)), (.d (.list 3 x2))])), (4, (.lbox [(.d (.int .i64 0)), (.own 3 [])])), (11, (.d (.bool v8)))], heap := [], n := 32 }) ?_ ?_
    · skip
      rcases tf (A.zlt x3 0) with c7 | c7
      · replace hvK9 := cT c7 hvK9
        refine AWp.rg hT hA {} (by (repeat (cbv; simp only [c6, c7])); first | done | cbv) (lb rfl) ?_
        cases soI hvK9
        exact oNi ⟨rfl, (by first | (cbv; done) | ((repeat (cbv; simp only [c6, c7])); first | done | cbv))⟩
      · replace hvK9 := cF c7 hvK9
        refine AWp.rg hT hA {} (by (repeat (cbv; simp only [c6, c7])); first | done | cbv) (lb rfl) ?_
        cases soI hvK9
        exact oNi ⟨rfl, (by first | (cbv; done) | ((repeat (cbv; simp only [c6, c7])); first | done | cbv))⟩
    · rintro _ rfl
      refine nT ?_
      rcases tf v8 with c10 | c10
      · replace h := cT c10 h
        refine AWp.cdT rfl (by first | rfl | simp only [c10, Bool.not_true, Bool.not_false, cond_true, cond_false]) ?_
        refine AWp.seq ?_
        refine AWp.rg hT hA { tk := [21], nl := [21] } (by (repeat (cbv; simp only [c10])); first | done | cbv) (lb rfl) ?_
        refine nT ?_
        refine AWp.ret ?_
        refine rB ?_
        refine rT ?_
        cases soI h
        exact ⟨rfl, rfl, rfl, lb rfl, _, rfl⟩
      · replace h := cF c10 h
        refine AWp.cdF rfl (by first | rfl | simp only [c10, Bool.not_true, Bool.not_false, cond_true, cond_false]) ?_
        refine AWp.skip ?_
        refine nB ?_
        refine nT ?_
        refine AWp.seq ?_
        obtain ⟨v25, hvK26, h⟩ := bindS h
        refine AWp.cutN [4, 5] [] 0 (lb rfl) (fun τ => τ = { env := [(4, (.lbox [(.d (.int .i64 x1)), (.d (.list 3 v25))])), (5, (.d (.int .i64 0)))], heap := [], n := 32 }) ?_ ?_
        · skip
          refine AWp.regionDraw rfl (lb rfl) ?_
          obtain ⟨r12, e11, hvK26⟩ := bindS hvK26
          rcases tf (A.zlt 0 (A.len r12)) with c13 | c13
          · replace hvK26 := cT c13 hvK26
            obtain ⟨_, e14, hvK26⟩ := bindS hvK26
            refine DOps.cc hT hA { tk := [31] } rfl (by (repeat (cbv; simp only [c10])); first | done | cbv) (ACall.thaw (R93w hA e11) rfl rfl (neL hA c13) (ckI e14) (H := []) rfl (lenL hA)) rfl (.inl rfl) rfl rfl rfl (lb rfl) rfl rfl ?_
            obtain ⟨⟨r16, r17, r18⟩, e15, hvK26⟩ := bindS hvK26
            obtain ⟨l19, e20, hvK26⟩ := bindS hvK26
            obtain ⟨f21, f22⟩ := fzI hA e20
            refine DOps.cl hT hA { tk := [31] } rfl (by (repeat (cbv; simp only [c10, c13])); first | done | cbv) (ACall.frz (R92w hA e15) rfl f21 f22 rfl) rfl rfl rfl rfl rfl (lb rfl) rfl rfl ?_
            refine DOps.cd hT hA { tk := [31] } rfl (by (repeat (cbv; simp only [c10, c13])); first | done | cbv) (by kernel_rfl) ?_
            cases soI hvK26
            exact oNi ⟨rfl, (by first | (cbv; done) | ((repeat (cbv; simp only [c10, c13])); first | done | cbv))⟩
          · replace hvK26 := cF c13 hvK26
            refine DOps.c0 hT hA { tk := [31] } rfl (by (repeat (cbv; simp only [c10])); first | done | cbv) (R93w hA e11) rfl rfl (lb rfl) rfl rfl ?_
            obtain ⟨r24, e23, hvK26⟩ := bindS hvK26
            refine DOps.c0 hT hA { tk := [31] } rfl (by (repeat (cbv; simp only [c10, c13])); first | done | cbv) (R92aw hA e23) rfl rfl (lb rfl) rfl rfl ?_
            refine DOps.cd hT hA { tk := [31] } rfl (by (repeat (cbv; simp only [c10, c13])); first | done | cbv) (by kernel_rfl) ?_
            cases soI hvK26
            exact oNi ⟨rfl, (by first | (cbv; done) | ((repeat (cbv; simp only [c10, c13])); first | done | cbv))⟩
        · rintro _ rfl
          refine nT ?_
          refine AWp.ret ?_
          cases soI h
          exact ⟨rfl, rfl, rfl, lb rfl, _, rfl⟩
  · replace h := cF c6 h
    refine AWp.cdT rfl (by first | rfl | simp only [c6, Bool.not_true, Bool.not_false, cond_true, cond_false]) ?_
    refine AWp.seq ?_
    refine AWp.rg hT hA { tk := [10], nl := [10] } (by (repeat (cbv; simp only [c6])); first | done | cbv) (lb rfl) ?_
    refine nT ?_
    refine AWp.ret ?_
    refine rB ?_
    refine rT ?_
    cases soI h
    exact ⟨rfl, rfl, rfl, lb rfl, _, rfl⟩

theorem R7w {A : Ar} (hA : A = Ar.std) {x1 : Int} {x2 : List D} {x3 : Int} {x4 : List D} {x5 : Int} {x6 : Int} {v66 : Bool} (h : R7 A x1 x2 x3 x4 x5 x6 = some v66) : ACall Try.prog 7 [(.d (.agg [(.int .i64 x1), (.list 3 x2)])), (.d (.agg [(.int .i64 x3), (.list 3 x4)])), (.d (.int .u8 x5)), (.d (.int .u8 x6))] [] (.d (.bool v66)) [] := by
  unfold R7 at h
  refine ACall.enter hT (fn := Try.f7) Try.func7 rfl (by decide) (by simp [Try.f7]) rfl rfl rfl rfl (lb rfl) ?_
  refine AWp.seq ?_
  refine AWp.rg hT hA {} (by cbv) (lb rfl) ?_
  refine nT ?_
  refine AWp.seq ?_
  refine AWp.seq ?_
  refine AWp.region ?_
  obtain ⟨r8, e7, h⟩ := bindS h
  refine AOps.cc hT hA {} (by cbv) (lb rfl) (R42w hA e7) rfl (.inl rfl) rfl rfl rfl (lb rfl) rfl rfl ?_
  refine AOps.cd hT hA {} (by cbv) (lb rfl) ?_
  refine nT ?_
  rcases tf r8 with c9 | c9
  · replace h := cT c9 h
    refine AWp.cdF rfl (by first | rfl | simp only [c9, Bool.not_true, Bool.not_false, cond_true, cond_false]) ?_
    refine AWp.skip ?_
    refine nT ?_
    refine AWp.seq ?_
    obtain ⟨_, e12, h⟩ := bindS h
    have f13 := nkI e12
    refine AWp.rg hT hA {} (by (repeat (cbv; simp only [c9, f13])); first | done | cbv) (lb rfl) ?_
    refine nT ?_
    refine AWp.seq ?_
    refine AWp.region ?_
    obtain ⟨⟨r15, r16, r17⟩, e14, h⟩ := bindS h
    refine AOps.cc hT hA { tk := [36] } (by (repeat (cbv; simp only [c9])); first | done | cbv) (lb rfl) (R43w hA e14) rfl (.inl rfl) rfl rfl rfl (lb rfl) rfl rfl ?_
    refine AOps.cd hT hA { tk := [36] } (by (repeat (cbv; simp only [c9])); first | done | cbv) (lb rfl) ?_
    refine nT ?_
    refine AWp.seq ?_
    refine AWp.region ?_
    obtain ⟨⟨r19, r20, r21⟩, e18, h⟩ := bindS h
    refine AOps.cc hT hA { tk := [42] } (by (repeat (cbv; simp only [c9])); first | done | cbv) (lb rfl) (R43w hA e18) rfl (.inl rfl) rfl rfl rfl (lb rfl) rfl rfl ?_
    refine AOps.cd hT hA { tk := [42] } (by (repeat (cbv; simp only [c9])); first | done | cbv) (lb rfl) ?_
    refine nT ?_
    refine AWp.seq ?_
    refine AWp.region ?_
    obtain ⟨⟨r23, r24⟩, e22, h⟩ := bindS h
    refine AOps.cc hT hA {} (by (repeat (cbv; simp only [c9])); first | done | cbv) (lb rfl) (R44w hA e22) rfl (.inl rfl) rfl rfl rfl (lb rfl) rfl rfl ?_
    refine AOps.cd hT hA {} (by (repeat (cbv; simp only [c9])); first | done | cbv) (lb rfl) ?_
    refine nT ?_
    refine AWp.seq ?_
    refine AWp.region ?_
    obtain ⟨⟨r26, r27⟩, e25, h⟩ := bindS h
    refine AOps.cc hT hA {} (by (repeat (cbv; simp only [c9])); first | done | cbv) (lb rfl) (R44w hA e25) rfl (.inl rfl) rfl rfl rfl (lb rfl) rfl rfl ?_
    refine AOps.cd hT hA {} (by (repeat (cbv; simp only [c9])); first | done | cbv) (lb rfl) ?_
    refine nT ?_
    refine AWp.seq ?_
    refine AWp.region ?_
    obtain ⟨⟨r29, r30, r31⟩, e28, h⟩ := bindS h
    refine AOps.cc hT hA { tk := [60] } (by (repeat (cbv; simp only [c9])); first | done | cbv) (lb rfl) (R43w hA e28) rfl (.inl rfl) rfl rfl rfl (lb rfl) rfl rfl ?_
    refine AOps.cd hT hA { tk := [60] } (by (repeat (cbv; simp only [c9])); first | done | cbv) (lb rfl) ?_
    refine nT ?_
    refine AWp.seq ?_
    refine AWp.seq ?_
    obtain ⟨v43, hvK44, h⟩ := bindS h
    refine AWp.cutN [3, 4, 92] [] 0 (lb rfl) (fun τ => τ = { env := [(3, (.d (.int .u8 x6))), (4, (.lbox [(.d (.int .i64 x1)), (.d (.list 3 x2))])), (92, (.d (.bool v43)))], heap := [], n := 137 }) ?_ ?_
    · skip
      refine AWp.region ?_
      rcases tf (A.zeq r17 0) with c32 | c32
      · replace hvK44 := cT c32 hvK44
        rcases tf (A.zeq r21 0) with c33 | c33
        · replace hvK44 := cT c33 hvK44
          rcases tf (A.zeq r24 0) with c34 | c34
          · replace hvK44 := cT c34 hvK44
            rcases tf (A.zeq r27 0) with c35 | c35
            · replace hvK44 := cT c35 hvK44
              rcases tf (A.zeq r31 0) with c36 | c36
              · replace hvK44 := cT c36 hvK44
                rcases tf r23 with c37 | c37
                · replace hvK44 := cT c37 hvK44
                  rcases tf r26 with c38 | c38
                  · replace hvK44 := cT c38 hvK44
                    obtain ⟨r40, e39, hvK44⟩ := bindS hvK44
                    refine AOps.cc hT hA {} (by (repeat (cbv; simp only [c9, c32, c33, c34, c35, c36, c37, c38])); first | done | cbv) (lb rfl) (R30w hA e39) rfl (.inl rfl) rfl rfl rfl (lb rfl) rfl rfl ?_
                    refine AOps.cd hT hA {} (by (repeat (cbv; simp only [c9, c32, c33, c34, c35, c36, c37, c38])); first | done | cbv) (lb rfl) ?_
                    cases soI hvK44
                    exact oNi ⟨rfl, (by first | (cbv; done) | ((repeat (cbv; simp only [c9, c32, c33, c34, c35, c36, c37, c38])); first | done | cbv))⟩
                  · replace hvK44 := cF c38 hvK44
                    refine AOps.cd hT hA {} (by (repeat (cbv; simp only [c9, c32, c33, c34, c35, c36, c37, c38])); first | done | cbv) (lb rfl) ?_
                    cases soI hvK44
                    exact oNi ⟨rfl, (by first | (cbv; done) | ((repeat (cbv; simp only [c9, c32, c33, c34, c35, c36, c37, c38])); first | done | cbv))⟩
                · replace hvK44 := cF c37 hvK44
                  obtain ⟨r42, e41, hvK44⟩ := bindS hvK44
                  refine AOps.cc hT hA {} (by (repeat (cbv; simp only [c9, c32, c33, c34, c35, c36, c37])); first | done | cbv) (lb rfl) (R30w hA e41) rfl (.inl rfl) rfl rfl rfl (lb rfl) rfl rfl ?_
                  refine AOps.cd hT hA {} (by (repeat (cbv; simp only [c9, c32, c33, c34, c35, c36, c37])); first | done | cbv) (lb rfl) ?_
                  cases soI hvK44
                  exact oNi ⟨rfl, (by first | (cbv; done) | ((repeat (cbv; simp only [c9, c32, c33, c34, c35, c36, c37])); first | done | cbv))⟩
              · replace hvK44 := cF c36 hvK44
                refine AOps.cd hT hA {} (by (repeat (cbv; simp only [c9, c32, c33, c34, c35, c36])); first | done | cbv) (lb rfl) ?_
                cases soI hvK44
                exact oNi ⟨rfl, (by first | (cbv; done) | ((repeat (cbv; simp only [c9, c32, c33, c34, c35, c36])); first | done | cbv))⟩
            · replace hvK44 := cF c35 hvK44
              refine AOps.cd hT hA {} (by (repeat (cbv; simp only [c9, c32, c33, c34, c35])); first | done | cbv) (lb rfl) ?_
              cases soI hvK44
              exact oNi ⟨rfl, (by first | (cbv; done) | ((repeat (cbv; simp only [c9, c32, c33, c34, c35])); first | done | cbv))⟩
          · replace hvK44 := cF c34 hvK44
            refine AOps.cd hT hA {} (by (repeat (cbv; simp only [c9, c32, c33, c34])); first | done | cbv) (lb rfl) ?_
            cases soI hvK44
            exact oNi ⟨rfl, (by first | (cbv; done) | ((repeat (cbv; simp only [c9, c32, c33, c34])); first | done | cbv))⟩
        · replace hvK44 := cF c33 hvK44
          refine AOps.cd hT hA {} (by (repeat (cbv; simp only [c9, c32, c33])); first | done | cbv) (lb rfl) ?_
          cases soI hvK44
          exact oNi ⟨rfl, (by first | (cbv; done) | ((repeat (cbv; simp only [c9, c32, c33])); first | done | cbv))⟩
      · replace hvK44 := cF c32 hvK44
        refine AOps.cd hT hA {} (by (repeat (cbv; simp only [c9, c32])); first | done | cbv) (lb rfl) ?_
        cases soI hvK44
        exact oNi ⟨rfl, (by first | (cbv; done) | ((repeat (cbv; simp only [c9, c32])); first | done | cbv))⟩
    · rintro _ rfl
      refine nT ?_
      rcases tf v43 with c45 | c45
      · replace h := cT c45 h
        refine AWp.cdT rfl (by first | rfl | simp only [c45, Bool.not_true, Bool.not_false, cond_true, cond_false]) ?_
        refine AWp.seq ?_
        refine AWp.rg hT hA {} (by (repeat (cbv; simp only [c45])); first | done | cbv) (lb rfl) ?_
        refine nT ?_
        refine AWp.ret ?_
        refine rT ?_
        cases soI h
        exact ⟨rfl, rfl, rfl, lb rfl, _, rfl⟩
      · replace h := cF c45 h
        refine AWp.cdF rfl (by first | rfl | simp only [c45, Bool.not_true, Bool.not_false, cond_true, cond_false]) ?_
        refine AWp.skip ?_
        refine nT ?_
        refine AWp.seq ?_
        refine AWp.seq ?_
        refine AWp.rg hT hA {} (by (repeat (cbv; simp only [c45])); first | done | cbv) (lb rfl) ?_
        refine nT ?_
        rcases tf (A.zeq (A.len x2) 0) with c46 | c46
        · replace h := cT c46 h
          refine AWp.cdT rfl (by first | rfl | simp only [c45, c46, Bool.not_true, Bool.not_false, cond_true, cond_false]) ?_
          refine AWp.seq ?_
          refine AWp.region ?_
          obtain ⟨r48, e47, h⟩ := bindS h
          refine AOps.cc hT hA { tk := [97] } (by (repeat (cbv; simp only [c45, c46])); first | done | cbv) (lb rfl) (R17w hA e47) rfl (.inl rfl) rfl rfl rfl (lb rfl) rfl rfl ?_
          refine AOps.cd hT hA { tk := [97] } (by (repeat (cbv; simp only [c45, c46])); first | done | cbv) (lb rfl) ?_
          refine nT ?_
          refine AWp.ret ?_
          refine rT ?_
          cases soI h
          exact ⟨rfl, rfl, rfl, lb rfl, _, rfl⟩
        · replace h := cF c46 h
          refine AWp.cdF rfl (by first | rfl | simp only [c45, c46, Bool.not_true, Bool.not_false, cond_true, cond_false]) ?_
          refine AWp.skip ?_
          refine nT ?_
          refine AWp.seq ?_
          refine AWp.regionDraw rfl (lb rfl) ?_
          obtain ⟨_, e49, h⟩ := bindS h
          have f50 := nkI e49
          obtain ⟨⟨r52, r53, r54⟩, e51, h⟩ := bindS h
          refine DOps.c0 hT hA { tk := [107] } rfl (by (repeat (cbv; simp only [c45, c46, f50])); first | done | cbv) (R45w hA e51) rfl rfl (lb rfl) rfl rfl ?_
          refine DOps.cd hT hA { tk := [107] } rfl (by (repeat (cbv; simp only [c45, c46, f50])); first | done | cbv) (by kernel_rfl) ?_
          refine nT ?_
          refine AWp.seq ?_
          refine AWp.region ?_
          obtain ⟨⟨r56, r57⟩, e55, h⟩ := bindS h
          refine AOps.cc hT hA {} (by (repeat (cbv; simp only [c45, c46])); first | done | cbv) (lb rfl) (R44w hA e55) rfl (.inl rfl) rfl rfl rfl (lb rfl) rfl rfl ?_
          refine AOps.cd hT hA {} (by (repeat (cbv; simp only [c45, c46])); first | done | cbv) (lb rfl) ?_
          refine nT ?_
          refine AWp.seq ?_
          obtain ⟨v64, hvK65, h⟩ := bindS h
          refine AWp.cutN [8] [] 0 (lb rfl) (fun τ => τ = { env := [(8, (.d (.bool v64)))], heap := [], n := 137 }) ?_ ?_
          · skip
            refine AWp.region ?_
            rcases tf (A.zeq r54 0) with c58 | c58
            · replace hvK65 := cT c58 hvK65
              rcases tf (A.zeq r57 0) with c59 | c59
              · replace hvK65 := cT c59 hvK65
                rcases tf r56 with c60 | c60
                · replace hvK65 := cT c60 hvK65
                  rcases tf (A.zeq (A.len r53) (A.wrp .i64 (A.zsub (A.len x2) 1))) with c61 | c61
                  · replace hvK65 := cT c61 hvK65
                    obtain ⟨r63, e62, hvK65⟩ := bindS hvK65
                    refine AOps.cc hT hA { tk := [136] } (by (repeat (cbv; simp only [c45, c46, c58, c59, c60, c61])); first | done | cbv) (lb rfl) (R17w hA e62) rfl (.inl rfl) rfl rfl rfl (lb rfl) rfl rfl ?_
                    refine AOps.cd hT hA { tk := [136] } (by (repeat (cbv; simp only [c45, c46, c58, c59, c60, c61])); first | done | cbv) (lb rfl) ?_
                    cases soI hvK65
                    exact oNi ⟨rfl, (by first | (cbv; done) | ((repeat (cbv; simp only [c45, c46, c58, c59, c60, c61])); first | done | cbv))⟩
                  · replace hvK65 := cF c61 hvK65
                    refine AOps.cd hT hA { tk := [136] } (by (repeat (cbv; simp only [c45, c46, c58, c59, c60, c61])); first | done | cbv) (lb rfl) ?_
                    cases soI hvK65
                    exact oNi ⟨rfl, (by first | (cbv; done) | ((repeat (cbv; simp only [c45, c46, c58, c59, c60, c61])); first | done | cbv))⟩
                · replace hvK65 := cF c60 hvK65
                  refine AOps.cd hT hA { tk := [136] } (by (repeat (cbv; simp only [c45, c46, c58, c59, c60])); first | done | cbv) (lb rfl) ?_
                  cases soI hvK65
                  exact oNi ⟨rfl, (by first | (cbv; done) | ((repeat (cbv; simp only [c45, c46, c58, c59, c60])); first | done | cbv))⟩
              · replace hvK65 := cF c59 hvK65
                refine AOps.cd hT hA { tk := [136] } (by (repeat (cbv; simp only [c45, c46, c58, c59])); first | done | cbv) (lb rfl) ?_
                cases soI hvK65
                exact oNi ⟨rfl, (by first | (cbv; done) | ((repeat (cbv; simp only [c45, c46, c58, c59])); first | done | cbv))⟩
            · replace hvK65 := cF c58 hvK65
              refine AOps.cd hT hA { tk := [136] } (by (repeat (cbv; simp only [c45, c46, c58])); first | done | cbv) (lb rfl) ?_
              cases soI hvK65
              exact oNi ⟨rfl, (by first | (cbv; done) | ((repeat (cbv; simp only [c45, c46, c58])); first | done | cbv))⟩
          · rintro _ rfl
            refine nT ?_
            refine AWp.ret ?_
            cases soI h
            exact ⟨rfl, rfl, rfl, lb rfl, _, rfl⟩
  · replace h := cF c9 h
    refine AWp.cdT rfl (by first | rfl | simp only [c9, Bool.not_true, Bool.not_false, cond_true, cond_false]) ?_
    refine AWp.seq ?_
    refine AWp.region ?_
    obtain ⟨r11, e10, h⟩ := bindS h
    refine AOps.cc hT hA { tk := [27] } (by (repeat (cbv; simp only [c9])); first | done | cbv) (lb rfl) (R17w hA e10) rfl (.inl rfl) rfl rfl rfl (lb rfl) rfl rfl ?_
    refine AOps.cd hT hA { tk := [27] } (by (repeat (cbv; simp only [c9])); first | done | cbv) (lb rfl) ?_
    refine nT ?_
    refine AWp.ret ?_
    refine rT ?_
    cases soI h
    exact ⟨rfl, rfl, rfl, lb rfl, _, rfl⟩

theorem R94Bw {A : Ar} (hA : A = Ar.std) {self95 : Int → Int → List D → List D → List D → List D → Option (List D)} (ih95 : ∀ {x1 : Int} {x2 : Int} {x3 : List D} {x4 : List D} {x5 : List D} {x6 : List D} {y1 : List D}, self95 x1 x2 x3 x4 x5 x6 = some y1 → ACall Try.prog 94 [(.d (.int .i64 x1)), (.d (.int .i64 x2)), (.ptr 5 0), (.ptr 2 0), (.ptr 6 0), (.ptr 4 0), (.ptr 3 0)] [(.arr 1 x3), (.arr 1 x4), (.cells [(.ptr 0 0)]), (.cells [(.ptr 1 0)]), (.arr 1 x5), (.arr 1 x6), (.cells [(.func 94 [] [(.ptr 5 0), (.ptr 2 0), (.ptr 6 0), (.ptr 4 0), (.ptr 3 0)])])] (.tuple []) [(.arr 1 x3), (.arr 1 x4), (.cells [(.ptr 0 0)]), (.cells [(.ptr 1 0)]), (.arr 1 x5), (.arr 1 y1), (.cells [(.func 94 [] [(.ptr 5 0), (.ptr 2 0), (.ptr 6 0), (.ptr 4 0), (.ptr 3 0)])])]) {x1 : Int} {x2 : Int} {x3 : List D} {x4 : List D} {x5 : List D} {x6 : List D} {v180 : List D} (h : R94B A self95 x1 x2 x3 x4 x5 x6 = some v180) : ACall Try.prog 94 [(.d (.int .i64 x1)), (.d (.int .i64 x2)), (.ptr 5 0), (.ptr 2 0), (.ptr 6 0), (.ptr 4 0), (.ptr 3 0)] [(.arr 1 x3), (.arr 1 x4), (.cells [(.ptr 0 0)]), (.cells [(.ptr 1 0)]), (.arr 1 x5), (.arr 1 x6), (.cells [(.func 94 [] [(.ptr 5 0), (.ptr 2 0), (.ptr 6 0), (.ptr 4 0), (.ptr 3 0)])])] (.tuple []) [(.arr 1 x3), (.arr 1 x4), (.cells [(.ptr 0 0)]), (.cells [(.ptr 1 0)]), (.arr 1 x5), (.arr 1 v180), (.cells [(.func 94 [] [(.ptr 5 0), (.ptr 2 0), (.ptr 6 0), (.ptr 4 0), (.ptr 3 0)])])] := by
  unfold R94B at h
  refine ACall.enter hT (fn := Try.f94) Try.func94 rfl (by decide) (by simp [Try.f94]) rfl rfl rfl rfl (lb rfl) ?_
  refine AWp.seq ?_
  refine AWp.seq ?_
  refine AWp.region ?_
  obtain ⟨_, e7, h⟩ := bindS h
  have f9 := ckI e7
  obtain ⟨_, e8, h⟩ := bindS h
  have f10 := ckI e8
  obtain ⟨a11, e12, h⟩ := bindS h
  have f13 := gcI e12
  obtain ⟨r15, e14, h⟩ := bindS h
  refine AOps.cc hT hA {} (by (repeat (cbv; simp only [f9, f10, f13])); first | done | cbv) (lb rfl) (R91w hA e14) rfl (.inr rfl) rfl rfl rfl (lb rfl) rfl rfl ?_
  refine AOps.cd hT hA {} (by (repeat (cbv; simp only [f9, f10, f13])); first | done | cbv) (lb rfl) ?_
  refine nT ?_
  rcases tf r15 with c16 | c16
  · replace h := cT c16 h
    refine AWp.cdT rfl (by first | rfl | simp only [c16, Bool.not_true, Bool.not_false, cond_true, cond_false]) ?_
    refine AWp.ret ?_
    refine rT ?_
    cases soI h
    exact ⟨rfl, rfl, rfl, lb rfl, _, rfl⟩
  · replace h := cF c16 h
    refine AWp.cdF rfl (by first | rfl | simp only [c16, Bool.not_true, Bool.not_false, cond_true, cond_false]) ?_
    refine AWp.skip ?_
    refine nT ?_
    refine AWp.seq ?_
    obtain ⟨_, e17, h⟩ := bindS h
    have f19 := ckI e17
    obtain ⟨_, e18, h⟩ := bindS h
    have f20 := ckI e18
    obtain ⟨a21, e22, h⟩ := bindS h
    have f23 := gcI e22
    obtain ⟨_, e24, h⟩ := bindS h
    have f25 := nkI e24
    obtain ⟨_, e26, h⟩ := bindS h
    have f28 := ckI e26
    obtain ⟨_, e27, h⟩ := bindS h
    have f29 := ckI e27
    obtain ⟨d30, e31, h⟩ := bindS h
    refine AWp.rd hT hA { tk := [22] } rfl (by (repeat (cbv; simp only [c16, f19, f20, f23, f25, f28, f29, e31])); first | done | cbv) (by kernel_rfl) (lb rfl) ?_
    refine nT ?_
    refine AWp.seq ?_
    refine AWp.rg hT hA {} (by (repeat (cbv; simp only [c16])); first | done | cbv) (lb rfl) ?_
    refine nT ?_
    refine AWp.block ?_
    obtain ⟨xK179, hxK179, K179, hK179, hkK179⟩ := bindK h
    refine AWp.cutX 0 [] [] 7 (lb rfl) (fun τ => ∃ v178, K179 v178 = some v180 ∧ τ = { env := [], heap := [(.arr 1 x3), (.arr 1 x4), (.cells [(.ptr 0 0)]), (.cells [(.ptr 1 0)]), (.arr 1 x5), (.arr 1 v178), (.cells [(.func 94 [] [(.ptr 5 0), (.ptr 2 0), (.ptr 6 0), (.ptr 4 0), (.ptr 3 0)])])], n := 59 }) ?_ ?_
    · skip
      refine AWp.iter hxK179 [0, 1, 3, 4, 5, 6, 24] [] 7 (lb rfl) (fun (v104, v105) => { env := [(0, (.d (.int .i64 x1))), (1, (.d (.int .i64 x2))), (3, (.ptr 2 0)), (4, (.ptr 6 0)), (5, (.ptr 4 0)), (6, (.ptr 3 0)), (24, (.d (.int .i64 v104)))], heap := [(.arr 1 x3), (.arr 1 x4), (.cells [(.ptr 0 0)]), (.cells [(.ptr 1 0)]), (.arr 1 x5), (.arr 1 v105), (.cells [(.func 94 [] [(.ptr 5 0), (.ptr 2 0), (.ptr 6 0), (.ptr 4 0), (.ptr 3 0)])])], n := 59 }) ⟨rfl, (by first | (cbv; done) | ((repeat (cbv; simp only [c16])); first | done | cbv))⟩ ?_
      rintro ⟨v104, v105⟩ eK179 hsK179
      dsimp only [R94L1] at hsK179
      refine AWp.seq ?_
      refine AWp.rg hT hA {} (by cbv) (lb rfl) ?_
      refine nT ?_
      refine AWp.seq ?_
      rcases tf (A.zlt v104 4) with c106 | c106
      · replace hsK179 := cT c106 hsK179
        refine AWp.cdT rfl (by first | rfl | simp only [c106, Bool.not_true, Bool.not_false, cond_true, cond_false]) ?_
        refine AWp.skip ?_
        refine nT ?_
        refine AWp.seq ?_
        refine AWp.block ?_
        refine AWp.seq ?_
        refine AWp.rg hT hA {} (by (repeat (cbv; simp only [c106])); first | done | cbv) (lb rfl) ?_
        refine nT ?_
        refine AWp.seq ?_
        refine AWp.region ?_
        obtain ⟨_, e107, hsK179⟩ := bindS hsK179
        have f109 := ckI e107
        obtain ⟨_, e108, hsK179⟩ := bindS hsK179
        have f110 := ckI e108
        obtain ⟨_, e111, hsK179⟩ := bindS hsK179
        have f113 := ckI e111
        obtain ⟨_, e112, hsK179⟩ := bindS hsK179
        have f114 := ckI e112
        obtain ⟨a115, e116, hsK179⟩ := bindS hsK179
        have f117 := gcI e116
        obtain ⟨r119, e118, hsK179⟩ := bindS hsK179
        refine AOps.cc hT hA {} (by (repeat (cbv; simp only [c106, f109, f110, f113, f114, f117])); first | done | cbv) (lb rfl) (R76w hA e118) rfl (.inr rfl) rfl rfl rfl (lb rfl) rfl rfl ?_
        refine AOps.cd hT hA {} (by (repeat (cbv; simp only [c106, f109, f110, f113, f114, f117])); first | done | cbv) (lb rfl) ?_
        refine nT ?_
        refine AWp.block ?_
        obtain ⟨xK177, hxK177, K177, hK177, hkK177⟩ := bindK hsK179
        refine AWp.cutX 2 [0, 1, 3, 4, 5, 6, 24] [] 7 (lb rfl) (fun τ => ∃ v176, K177 v176 = some eK179 ∧ τ = { env := [(0, (.d (.int .i64 x1))), (1, (.d (.int .i64 x2))), (3, (.ptr 2 0)), (4, (.ptr 6 0)), (5, (.ptr 4 0)), (6, (.ptr 3 0)), (24, (.d (.int .i64 v104)))], heap := [(.arr 1 x3), (.arr 1 x4), (.cells [(.ptr 0 0)]), (.cells [(.ptr 1 0)]), (.arr 1 x5), (.arr 1 v176), (.cells [(.func 94 [] [(.ptr 5 0), (.ptr 2 0), (.ptr 6 0), (.ptr 4 0), (.ptr 3 0)])])], n := 59 }) ?_ ?_
        · skip
          refine AWp.iter hxK177 [0, 1, 3, 4, 5, 6, 9, 24, 35, 36, 37] [] 7 (lb rfl) (fun (v147, v148) => { env := [(0, (.d (.int .i64 x1))), (1, (.d (.int .i64 x2))), (3, (.ptr 2 0)), (4, (.ptr 6 0)), (5, (.ptr 4 0)), (6, (.ptr 3 0)), (9, (.d (.int .i64 v104))), (24, (.d (.int .i64 v104))), (35, (.own 1 r119)), (36, (.d (.int .i64 (A.len r119)))), (37, (.d (.int .i64 v147)))], heap := [(.arr 1 x3), (.arr 1 x4), (.cells [(.ptr 0 0)]), (.cells [(.ptr 1 0)]), (.arr 1 x5), (.arr 1 v148), (.cells [(.func 94 [] [(.ptr 5 0), (.ptr 2 0), (.ptr 6 0), (.ptr 4 0), (.ptr 3 0)])])], n := 59 }) ⟨rfl, (by first | (cbv; done) | ((repeat (cbv; simp only [c106])); first | done | cbv))⟩ ?_
          rintro ⟨v147, v148⟩ eK177 hsK177
          dsimp only [R94L0] at hsK177
          refine AWp.seq ?_
          refine AWp.rg hT hA {} (by cbv) (lb rfl) ?_
          refine nT ?_
          refine AWp.seq ?_
          rcases tf (A.zlt v147 (A.len r119)) with c149 | c149
          · replace hsK177 := cT c149 hsK177
            refine AWp.cdT rfl (by first | rfl | simp only [c149, Bool.not_true, Bool.not_false, cond_true, cond_false]) ?_
            refine AWp.skip ?_
            refine nT ?_
            refine AWp.seq ?_
            refine AWp.block ?_
            refine AWp.seq ?_
            obtain ⟨a150, e151, hsK177⟩ := bindS hsK177
            obtain ⟨f152, f153⟩ := gtI e151
            refine AWp.rg hT hA {} (by (repeat (cbv; simp only [c149, f152, f153])); first | done | cbv) (lb rfl) ?_
            refine nT ?_
            refine AWp.regionDraw rfl (lb rfl) ?_
            obtain ⟨_, e154, hsK177⟩ := bindS hsK177
            have f156 := ckI e154
            obtain ⟨_, e155, hsK177⟩ := bindS hsK177
            have f157 := ckI e155
            obtain ⟨a158, e159, hsK177⟩ := bindS hsK177
            have f160 := gcI e159
            obtain ⟨_, e161, hsK177⟩ := bindS hsK177
            have f163 := ckI e161
            obtain ⟨_, e162, hsK177⟩ := bindS hsK177
            have f164 := ckI e162
            obtain ⟨_, e165, hsK177⟩ := bindS hsK177
            have f167 := ckI e165
            obtain ⟨_, e166, hsK177⟩ := bindS hsK177
            have f168 := ckI e166
            obtain ⟨a169, e170, hsK177⟩ := bindS hsK177
            have f171 := gcI e170
            obtain ⟨r173, e172, hsK177⟩ := bindS hsK177
            refine DOps.c0 hT hA {} rfl (by (repeat (cbv; simp only [c149, f156, f157, f160, f163, f164, f167, f168, f171])); first | done | cbv) (R95w hA e172) rfl rfl (lb rfl) rfl rfl ?_
            obtain ⟨r175, e174, hsK177⟩ := bindS hsK177
            refine DOps.cl hT hA {} rfl (by (repeat (cbv; simp only [c149, f156, f157, f160, f163, f164, f167, f168, f171])); first | done | cbv) (ih95 e174) rfl rfl rfl rfl rfl (lb rfl) rfl rfl ?_
            refine DOps.cd hT hA {} rfl (by (repeat (cbv; simp only [c149, f156, f157, f160, f163, f164, f167, f168, f171])); first | done | cbv) (by kernel_rfl) ?_
            refine nB ?_
            refine nT ?_
            refine AWp.rg hT hA {} (by (repeat (cbv; simp only [c149])); first | done | cbv) (lb rfl) ?_
            exact nT ⟨_, (soI hsK177).symm, rfl, (by first | (cbv; done) | ((repeat (cbv; simp only [c149])); first | done | cbv))⟩
          · replace hsK177 := cF c149 hsK177
            refine AWp.cdF rfl (by first | rfl | simp only [c149, Bool.not_true, Bool.not_false, cond_true, cond_false]) ?_
            refine AWp.exit ?_
            refine xT ?_
            refine xT ?_
            refine exL hsK177 fun hx => ?_
            subst hx
            exact oxI ⟨rfl, _, hkK177, (by first | (cbv; done) | ((repeat (cbv; simp only [c149])); first | done | cbv))⟩
        · rintro _ ⟨v176, hkK177, rfl⟩
          have hsK179 := (hK177 _ hkK177)
          refine xB ?_
          refine nB ?_
          refine nT ?_
          refine AWp.rg hT hA {} (by cbv) (lb rfl) ?_
          exact nT ⟨_, (soI hsK179).symm, rfl, (by cbv)⟩
      · replace hsK179 := cF c106 hsK179
        refine AWp.cdF rfl (by first | rfl | simp only [c106, Bool.not_true, Bool.not_false, cond_true, cond_false]) ?_
        refine AWp.exit ?_
        refine xT ?_
        refine xT ?_
        refine exL hsK179 fun hx => ?_
        subst hx
        exact oxI ⟨rfl, _, hkK179, (by first | (cbv; done) | ((repeat (cbv; simp only [c106])); first | done | cbv))⟩
    · rintro _ ⟨v178, hkK179, rfl⟩
      have h := (hK179 _ hkK179)
      refine xB ?_
      cases soI h
      exact ⟨rfl, rfl, rfl, lb rfl, _, rfl⟩

theorem R94Rw {A : Ar} (hA : A = Ar.std) : ∀ (n : Nat) {x1 : Int} {x2 : Int} {x3 : List D} {x4 : List D} {x5 : List D} {x6 : List D} {v180 : List D}, R94R A n x1 x2 x3 x4 x5 x6 = some v180 → ACall Try.prog 94 [(.d (.int .i64 x1)), (.d (.int .i64 x2)), (.ptr 5 0), (.ptr 2 0), (.ptr 6 0), (.ptr 4 0), (.ptr 3 0)] [(.arr 1 x3), (.arr 1 x4), (.cells [(.ptr 0 0)]), (.cells [(.ptr 1 0)]), (.arr 1 x5), (.arr 1 x6), (.cells [(.func 94 [] [(.ptr 5 0), (.ptr 2 0), (.ptr 6 0), (.ptr 4 0), (.ptr 3 0)])])] (.tuple []) [(.arr 1 x3), (.arr 1 x4), (.cells [(.ptr 0 0)]), (.cells [(.ptr 1 0)]), (.arr 1 x5), (.arr 1 v180), (.cells [(.func 94 [] [(.ptr 5 0), (.ptr 2 0), (.ptr 6 0), (.ptr 4 0), (.ptr 3 0)])])]
  | 0, _, _, _, _, _, _, _, h => by cases h
  | n + 1, _, _, _, _, _, _, _, h => R94Bw hA (fun h => R94Rw hA n h) h

theorem R94w {A : Ar} (hA : A = Ar.std) {x1 : Int} {x2 : Int} {x3 : List D} {x4 : List D} {x5 : List D} {x6 : List D} {v180 : List D} (h : R94 A x1 x2 x3 x4 x5 x6 = some v180) : ACall Try.prog 94 [(.d (.int .i64 x1)), (.d (.int .i64 x2)), (.ptr 5 0), (.ptr 2 0), (.ptr 6 0), (.ptr 4 0), (.ptr 3 0)] [(.arr 1 x3), (.arr 1 x4), (.cells [(.ptr 0 0)]), (.cells [(.ptr 1 0)]), (.arr 1 x5), (.arr 1 x6), (.cells [(.func 94 [] [(.ptr 5 0), (.ptr 2 0), (.ptr 6 0), (.ptr 4 0), (.ptr 3 0)])])] (.tuple []) [(.arr 1 x3), (.arr 1 x4), (.cells [(.ptr 0 0)]), (.cells [(.ptr 1 0)]), (.arr 1 x5), (.arr 1 v180), (.cells [(.func 94 [] [(.ptr 5 0), (.ptr 2 0), (.ptr 6 0), (.ptr 4 0), (.ptr 3 0)])])] := R94Rw hA fuel h

theorem R46w {A : Ar} (hA : A = Ar.std) {x1 : Int} {x2 : List D} {x3 : Int} {x4 : List D} {v34 : List D} {v35 : Int} (h : R46 A x1 x2 x3 x4 = some (v34, v35)) : ACall Try.prog 46 [(.d (.agg [(.int .i64 x1), (.list 3 x2)])), (.d (.agg [(.int .i64 x3), (.list 3 x4)]))] [] (.tuple [(.d (.list 2 v34)), (.d (.int .i64 v35))]) [] := by
  unfold R46 at h
  refine ACall.enter hT (fn := Try.f46) Try.func46 rfl (by decide) (by simp [Try.f46]) rfl rfl rfl rfl (lb rfl) ?_
  refine AWp.seq ?_
  refine AWp.rg hT hA {} (by cbv) (lb rfl) ?_
  refine nT ?_
  refine AWp.seq ?_
  refine AWp.region ?_
  obtain ⟨q9, e5, h⟩ := bindS h
  rcases q9 with ⟨r6, r7⟩ | r8 | _
  · replace h := (eL h)
    refine AOps.cc hT hA { tk := [16, 17], esc := [6, 7] } (by cbv) (lb rfl) (R70wa hA e5) rfl (.inl rfl) rfl rfl rfl (lb rfl) rfl rfl ?_
    refine AOps.cd hT hA { tk := [16, 17], esc := [6, 7] } (by cbv) (lb rfl) ?_
    refine nT ?_
    refine AWp.seq ?_
    refine AWp.seq ?_
    have f10 := zeqF hA (a := 0) (b := 0) (c := true) rfl
    refine AWp.rg hT hA {} (by (repeat (cbv; simp only [f10])); first | done | cbv) (lb rfl) ?_
    refine nT ?_
    refine AWp.cdF rfl (by first | rfl | simp only [f10, Bool.not_true, Bool.not_false, cond_true, cond_false]) ?_
    refine AWp.skip ?_
    refine nT ?_
    refine AWp.seq ?_
    refine AWp.region ?_
    obtain ⟨r12, e11, h⟩ := bindS h
    refine AOps.cc hT hA { tk := [24], arr := [9] } (by (repeat (cbv; simp only [f10])); first | done | cbv) (lb rfl) (R90w hA e11) rfl (.inr rfl) rfl rfl rfl (lb rfl) rfl rfl ?_
    obtain ⟨_, e16, h⟩ := bindS h
    have f15 := ckI e16
    obtain ⟨_, e13, h⟩ := bindS h
    have f14 := ckI e13
    refine AOps.cd hT hA { tk := [24], arr := [9] } (by (repeat (cbv; simp only [f10, f14, f15])); first | done | cbv) (lb rfl) ?_
    refine nT ?_
    refine AWp.seq ?_
    refine AWp.seq ?_
    refine AWp.region ?_
    obtain ⟨a17, e18, h⟩ := bindS h
    have f19 := gcI e18
    obtain ⟨r21, e20, h⟩ := bindS h
    refine AOps.cc hT hA {} (by (repeat (cbv; simp only [f10, f19])); first | done | cbv) (lb rfl) (R91w hA e20) rfl (.inr rfl) rfl rfl rfl (lb rfl) rfl rfl ?_
    refine AOps.cd hT hA {} (by (repeat (cbv; simp only [f10, f19])); first | done | cbv) (lb rfl) ?_
    refine nT ?_
    rcases tf r21 with c22 | c22
    · replace h := cT c22 h
      refine AWp.cdF rfl (by first | rfl | simp only [f10, c22, Bool.not_true, Bool.not_false, cond_true, cond_false]) ?_
      refine AWp.skip ?_
      refine nT ?_
      refine AWp.seq ?_
      refine AWp.rg hT hA { arr := [10] } (by (repeat (cbv; simp only [f10, c22])); first | done | cbv) (lb rfl) ?_
      refine nT ?_
      refine AWp.seq ?_
      refine AWp.rg hT hA { esc := [11] } (by (repeat (cbv; simp only [f10, c22])); first | done | cbv) (lb rfl) ?_
      refine nT ?_
      refine AWp.seq ?_
      refine AWp.rg hT hA { tk := [29] } (by (repeat (cbv; simp only [f10, c22])); first | done | cbv) (lb rfl) ?_
      refine nT ?_
      refine AWp.seq ?_
      refine AWp.region ?_
      obtain ⟨r24, e23, h⟩ := bindS h
      refine AOps.cc hT hA {} (by (repeat (cbv; simp only [f10, c22])); first | done | cbv) (lb rfl) (R94w hA e23) rfl (.inl rfl) rfl rfl rfl (lb rfl) rfl rfl ?_
      refine AOps.cd hT hA {} (by (repeat (cbv; simp only [f10, c22])); first | done | cbv) (lb rfl) ?_
      refine nT ?_
      refine AWp.seq ?_
      refine AWp.region ?_
      obtain ⟨l29, e25, h⟩ := bindS h
      obtain ⟨f26, f27, f28⟩ := gaI e25
      obtain ⟨r31, e30, h⟩ := bindS h
      refine AOps.cc hT hA {} (by (repeat (cbv; simp only [f10, c22, f26, f27, f28, f26, f27, f28])); first | done | cbv) (lb rfl) (R86w hA e30) rfl (.inr rfl) rfl rfl rfl (lb rfl) rfl rfl ?_
      refine AOps.cd hT hA {} (by (repeat (cbv; simp only [f10, c22, f26, f27, f28, f26, f27, f28])); first | done | cbv) (lb rfl) ?_
      refine nT ?_
      refine AWp.ret ?_
      cases soI h
      exact ⟨rfl, rfl, rfl, lb rfl, _, rfl⟩
    · replace h := cF c22 h
      refine AWp.cdT rfl (by first | rfl | simp only [f10, c22, Bool.not_true, Bool.not_false, cond_true, cond_false]) ?_
      refine AWp.seq ?_
      refine AWp.rg hT hA {} (by (repeat (cbv; simp only [f10, c22])); first | done | cbv) (lb rfl) ?_
      refine nT ?_
      refine AWp.ret ?_
      refine rT ?_
      cases soI h
      exact ⟨rfl, rfl, rfl, lb rfl, _, rfl⟩
  · replace h := (eL (eR h))
    refine AOps.cc hT hA { tk := [16, 17], esc := [6, 7] } (by cbv) (lb rfl) (R70wb hA e5) rfl (.inl rfl) rfl rfl rfl (lb rfl) rfl rfl ?_
    refine AOps.cd hT hA { tk := [16, 17], esc := [6, 7] } (by cbv) (lb rfl) ?_
    refine nT ?_
    refine AWp.seq ?_
    refine AWp.seq ?_
    have f32 := zeqF hA (a := 50) (b := 0) (c := false) rfl
    refine AWp.rg hT hA {} (by (repeat (cbv; simp only [f32])); first | done | cbv) (lb rfl) ?_
    refine nT ?_
    refine AWp.cdT rfl (by first | rfl | simp only [f32, Bool.not_true, Bool.not_false, cond_true, cond_false]) ?_
    refine AWp.seq ?_
    refine AWp.rg hT hA {} (by (repeat (cbv; simp only [f32])); first | done | cbv) (lb rfl) ?_
    refine nT ?_
    refine AWp.ret ?_
    refine rT ?_
    cases soI h
    exact ⟨rfl, rfl, rfl, lb rfl, _, rfl⟩
  · replace h := (eR (eR h))
    refine AOps.cc hT hA { tk := [16, 17], esc := [6, 7] } (by cbv) (lb rfl) (R70wc hA e5) rfl (.inl rfl) rfl rfl rfl (lb rfl) rfl rfl ?_
    refine AOps.cd hT hA { tk := [16, 17], esc := [6, 7] } (by cbv) (lb rfl) ?_
    refine nT ?_
    refine AWp.seq ?_
    refine AWp.seq ?_
    have f33 := zeqF hA (a := 50) (b := 0) (c := false) rfl
    refine AWp.rg hT hA {} (by (repeat (cbv; simp only [f33])); first | done | cbv) (lb rfl) ?_
    refine nT ?_
    refine AWp.cdT rfl (by first | rfl | simp only [f33, Bool.not_true, Bool.not_false, cond_true, cond_false]) ?_
    refine AWp.seq ?_
    refine AWp.rg hT hA {} (by (repeat (cbv; simp only [f33])); first | done | cbv) (lb rfl) ?_
    refine nT ?_
    refine AWp.ret ?_
    refine rT ?_
    cases soI h
    exact ⟨rfl, rfl, rfl, lb rfl, _, rfl⟩

theorem R47w {A : Ar} (hA : A = Ar.std) {x1 : Int} {x2 : List D} {x3 : Int} {x4 : List D} {v17 : List D} {v18 : Int} (h : R47 A x1 x2 x3 x4 = some (v17, v18)) : ACall Try.prog 47 [(.d (.agg [(.int .i64 x1), (.list 3 x2)])), (.d (.agg [(.int .i64 x3), (.list 3 x4)]))] [] (.tuple [(.d (.list 2 v17)), (.d (.int .i64 v18))]) [] := by
  unfold R47 at h
  refine ACall.enter hT (fn := Try.f47) Try.func47 rfl (by decide) (by simp [Try.f47]) rfl rfl rfl rfl (lb rfl) ?_
  refine AWp.seq ?_
  refine AWp.rg hT hA {} (by cbv) (lb rfl) ?_
  refine nT ?_
  refine AWp.seq ?_
  refine AWp.region ?_
  obtain ⟨q9, e5, h⟩ := bindS h
  rcases q9 with ⟨r6, r7⟩ | r8 | _
  · replace h := (eL h)
    refine AOps.cc hT hA {} (by cbv) (lb rfl) (R70wa hA e5) rfl (.inl rfl) rfl rfl rfl (lb rfl) rfl rfl ?_
    refine AOps.cd hT hA {} (by cbv) (lb rfl) ?_
    refine nT ?_
    refine AWp.seq ?_
    refine AWp.seq ?_
    have f10 := zeqF hA (a := 0) (b := 0) (c := true) rfl
    refine AWp.rg hT hA {} (by (repeat (cbv; simp only [f10])); first | done | cbv) (lb rfl) ?_
    refine nT ?_
    refine AWp.cdF rfl (by first | rfl | simp only [f10, Bool.not_true, Bool.not_false, cond_true, cond_false]) ?_
    refine AWp.skip ?_
    refine nT ?_
    refine AWp.seq ?_
    refine AWp.region ?_
    obtain ⟨r12, e11, h⟩ := bindS h
    refine AOps.cc hT hA {} (by (repeat (cbv; simp only [f10])); first | done | cbv) (lb rfl) (R90w hA e11) rfl (.inl rfl) rfl rfl rfl (lb rfl) rfl rfl ?_
    obtain ⟨r14, e13, h⟩ := bindS h
    refine AOps.cc hT hA {} (by (repeat (cbv; simp only [f10])); first | done | cbv) (lb rfl) (R86w hA e13) rfl (.inr rfl) rfl rfl rfl (lb rfl) rfl rfl ?_
    refine AOps.cd hT hA {} (by (repeat (cbv; simp only [f10])); first | done | cbv) (lb rfl) ?_
    refine nT ?_
    refine AWp.ret ?_
    cases soI h
    exact ⟨rfl, rfl, rfl, lb rfl, _, rfl⟩
  · replace h := (eL (eR h))
    refine AOps.cc hT hA {} (by cbv) (lb rfl) (R70wb hA e5) rfl (.inl rfl) rfl rfl rfl (lb rfl) rfl rfl ?_
    refine AOps.cd hT hA {} (by cbv) (lb rfl) ?_
    refine nT ?_
    refine AWp.seq ?_
    refine AWp.seq ?_
    have f15 := zeqF hA (a := 50) (b := 0) (c := false) rfl
    refine AWp.rg hT hA {} (by (repeat (cbv; simp only [f15])); first | done | cbv) (lb rfl) ?_
    refine nT ?_
    refine AWp.cdT rfl (by first | rfl | simp only [f15, Bool.not_true, Bool.not_false, cond_true, cond_false]) ?_
    refine AWp.seq ?_
    refine AWp.rg hT hA {} (by (repeat (cbv; simp only [f15])); first | done | cbv) (lb rfl) ?_
    refine nT ?_
    refine AWp.ret ?_
    refine rT ?_
    cases soI h
    exact ⟨rfl, rfl, rfl, lb rfl, _, rfl⟩
  · replace h := (eR (eR h))
    refine AOps.cc hT hA {} (by cbv) (lb rfl) (R70wc hA e5) rfl (.inl rfl) rfl rfl rfl (lb rfl) rfl rfl ?_
    refine AOps.cd hT hA {} (by cbv) (lb rfl) ?_
    refine nT ?_
    refine AWp.seq ?_
    refine AWp.seq ?_
    have f16 := zeqF hA (a := 50) (b := 0) (c := false) rfl
    refine AWp.rg hT hA {} (by (repeat (cbv; simp only [f16])); first | done | cbv) (lb rfl) ?_
    refine nT ?_
    refine AWp.cdT rfl (by first | rfl | simp only [f16, Bool.not_true, Bool.not_false, cond_true, cond_false]) ?_
    refine AWp.seq ?_
    refine AWp.rg hT hA {} (by (repeat (cbv; simp only [f16])); first | done | cbv) (lb rfl) ?_
    refine nT ?_
    refine AWp.ret ?_
    refine rT ?_
    cases soI h
    exact ⟨rfl, rfl, rfl, lb rfl, _, rfl⟩

theorem R96w {A : Ar} (hA : A = Ar.std) {x1 : Int} {x2 : List D} {x3 : Int} {x4 : List D} {x5 : Int} {x6 : Int} {x7 : Int} {x8 : Int} {x9 : List D} {v56 : Bool} (h : R96 A x1 x2 x3 x4 x5 x6 x7 x8 x9 = some v56) : ACall Try.prog 96 [(.d (.agg [(.int .i64 x1), (.list 3 x2)])), (.d (.agg [(.int .i64 x3), (.list 3 x4)])), (.mref 0 1 x5 x6), (.d (.int .i64 x7)), (.d (.int .i64 x8))] [(.arr 1 x9)] (.d (.bool v56)) [(.arr 1 x9)] := by
  unfold R96 at h
  refine ACall.enter hT (fn := Try.f96) Try.func96 rfl (by decide) (by simp [Try.f96]) rfl rfl rfl rfl (lb rfl) ?_
  refine AWp.seq ?_
  refine AWp.rg hT hA {} (by cbv) (lb rfl) ?_
  refine nT ?_
  refine AWp.seq ?_
  refine AWp.seq ?_
  refine AWp.rg hT hA {} (by cbv) (lb rfl) ?_
  refine nT ?_
  refine AWp.block ?_
  obtain ⟨xK55, hxK55, K55, hK55, hkK55⟩ := bindK h
  refine AWp.cutX 0 [] [] 1 (lb rfl) (fun τ => K55 (.inl ()) = some v56 ∧ τ = { env := [], heap := [(.arr 1 x9)], n := 40 }) ?_ ?_
  · skip
    refine AWp.iter hxK55 [2, 3, 4, 6, 14, 15, 16] [] 1 (lb rfl) (fun v32 => { env := [(2, (.mref 0 1 x5 x6)), (3, (.d (.int .i64 x7))), (4, (.d (.int .i64 x8))), (6, (.lbox [(.d (.int .i64 x3)), (.d (.list 3 x4))])), (14, (.d (.list 3 x2))), (15, (.d (.int .i64 (A.len x2)))), (16, (.d (.int .i64 v32)))], heap := [(.arr 1 x9)], n := 40 }) ⟨rfl, (by cbv)⟩ ?_
    rintro v32 eK55 hsK55
    dsimp only [R96L0] at hsK55
    refine AWp.seq ?_
    refine AWp.rg hT hA {} (by cbv) (lb rfl) ?_
    refine nT ?_
    refine AWp.seq ?_
    rcases tf (A.zlt v32 (A.len x2)) with c33 | c33
    · replace hsK55 := cT c33 hsK55
      refine AWp.cdT rfl (by first | rfl | simp only [c33, Bool.not_true, Bool.not_false, cond_true, cond_false]) ?_
      refine AWp.skip ?_
      refine nT ?_
      refine AWp.seq ?_
      refine AWp.block ?_
      refine AWp.seq ?_
      obtain ⟨⟨a34, a35, a36⟩, e37, hsK55⟩ := bindS hsK55
      obtain ⟨f38, f39⟩ := gtI e37
      refine AWp.rg hT hA { tk := [19] } (by (repeat (cbv; simp only [c33, f38, f39])); first | done | cbv) (lb rfl) ?_
      refine nT ?_
      refine AWp.seq ?_
      obtain ⟨v52, hvK53, hsK55⟩ := bindS hsK55
      refine AWp.cutN [2, 3, 4, 6, 14, 15, 16, 38] [] 1 (lb rfl) (fun τ => τ = { env := [(2, (.mref 0 1 x5 x6)), (3, (.d (.int .i64 x7))), (4, (.d (.int .i64 x8))), (6, (.lbox [(.d (.int .i64 x3)), (.d (.list 3 x4))])), (14, (.d (.list 3 x2))), (15, (.d (.int .i64 (A.len x2)))), (16, (.d (.int .i64 v32))), (38, (.d (.bool v52)))], heap := [(.arr 1 x9)], n := 40 }) ?_ ?_
      · skip
        refine AWp.regionDraw rfl (lb rfl) ?_
        rcases tf (A.zeq a34 x7) with c40 | c40
        · replace hvK53 := cT c40 hvK53
          obtain ⟨_, e41, hvK53⟩ := bindS hvK53
          have f42 := nkI e41
          obtain ⟨r44, e43, hvK53⟩ := bindS hvK53
          refine DOps.c0 hT hA {} rfl (by (repeat (cbv; simp only [c33, c40, f42])); first | done | cbv) (R74w hA e43) rfl rfl (lb rfl) rfl rfl ?_
          obtain ⟨_, e45, hvK53⟩ := bindS hvK53
          have f47 := ckI e45
          obtain ⟨_, e46, hvK53⟩ := bindS hvK53
          have f48 := ckI e46
          obtain ⟨a49, e50, hvK53⟩ := bindS hvK53
          have f51 := gcI e50
          refine DOps.cd hT hA {} rfl (by (repeat (cbv; simp only [c33, c40, f42, f47, f48, f51])); first | done | cbv) (by kernel_rfl) ?_
          cases soI hvK53
          exact oNi ⟨rfl, (by first | (cbv; done) | ((repeat (cbv; simp only [c33, c40])); first | done | cbv))⟩
        · replace hvK53 := cF c40 hvK53
          refine DOps.cd hT hA {} rfl (by (repeat (cbv; simp only [c33, c40])); first | done | cbv) (by kernel_rfl) ?_
          cases soI hvK53
          exact oNi ⟨rfl, (by first | (cbv; done) | ((repeat (cbv; simp only [c33, c40])); first | done | cbv))⟩
      · rintro _ rfl
        refine nT ?_
        rcases tf v52 with c54 | c54
        · replace hsK55 := cT c54 hsK55
          refine AWp.cdT rfl (by first | rfl | simp only [c54, Bool.not_true, Bool.not_false, cond_true, cond_false]) ?_
          refine AWp.seq ?_
          refine AWp.rg hT hA {} (by (repeat (cbv; simp only [c54])); first | done | cbv) (lb rfl) ?_
          refine nT ?_
          refine AWp.ret ?_
          refine rB ?_
          refine rT ?_
          refine rT ?_
          refine exL hsK55 fun hx => ?_
          subst hx
          refine oxR ?_
          replace hkK55 := (eR (hK55 _ hkK55))
          refine rB ?_
          refine rT ?_
          cases soI hkK55
          exact ⟨rfl, rfl, rfl, lb rfl, _, rfl⟩
        · replace hsK55 := cF c54 hsK55
          refine AWp.cdF rfl (by first | rfl | simp only [c54, Bool.not_true, Bool.not_false, cond_true, cond_false]) ?_
          refine AWp.skip ?_
          refine nB ?_
          refine nT ?_
          refine AWp.rg hT hA {} (by (repeat (cbv; simp only [c54])); first | done | cbv) (lb rfl) ?_
          exact nT ⟨_, (soI hsK55).symm, rfl, (by first | (cbv; done) | ((repeat (cbv; simp only [c54])); first | done | cbv))⟩
    · replace hsK55 := cF c33 hsK55
      refine AWp.cdF rfl (by first | rfl | simp only [c33, Bool.not_true, Bool.not_false, cond_true, cond_false]) ?_
      refine AWp.exit ?_
      refine xT ?_
      refine xT ?_
      refine exL hsK55 fun hx => ?_
      subst hx
      exact oxI ⟨rfl, hkK55, (by first | (cbv; done) | ((repeat (cbv; simp only [c33])); first | done | cbv))⟩
  · rintro _ ⟨hkK55, rfl⟩
    have h := (eL (hK55 _ hkK55))
    refine xB ?_
    refine nT ?_
    refine AWp.seq ?_
    refine AWp.rg hT hA {} (by cbv) (lb rfl) ?_
    refine nT ?_
    refine AWp.ret ?_
    cases soI h
    exact ⟨rfl, rfl, rfl, lb rfl, _, rfl⟩

theorem R48w {A : Ar} (hA : A = Ar.std) {x1 : Int} {x2 : List D} {x3 : Int} {x4 : List D} {x5 : List D} {v89 : Bool} {v90 : Int} (h : R48 A x1 x2 x3 x4 x5 = some (v89, v90)) : ACall Try.prog 48 [(.d (.agg [(.int .i64 x1), (.list 3 x2)])), (.d (.agg [(.int .i64 x3), (.list 3 x4)])), (.d (.list 2 x5))] [] (.tuple [(.d (.bool v89)), (.d (.int .i64 v90))]) [] := by
  unfold R48 at h
  refine ACall.enter hT (fn := Try.f48) Try.func48 rfl (by decide) (by simp [Try.f48]) rfl rfl rfl rfl (lb rfl) ?_
  refine AWp.seq ?_
  refine AWp.rg hT hA {} (by cbv) (lb rfl) ?_
  refine nT ?_
  refine AWp.seq ?_
  refine AWp.seq ?_
  obtain ⟨v11, hvK12, h⟩ := bindS h
  refine AWp.cutN [2, 3, 4, 20] [] 0 (lb rfl) (fun τ => τ = { env := [(2, (.d (.list 2 x5))), (3, (.lbox [(.d (.int .i64 x1)), (.d (.list 3 x2))])), (4, (.lbox [(.d (.int .i64 x3)), (.d (.list 3 x4))])), (20, (.d (.bool v11)))], heap := [], n := 64 }) ?_ ?_
  · skip
    refine AWp.region ?_
    obtain ⟨r7, e6, hvK12⟩ := bindS hvK12
    refine AOps.cc hT hA {} (by cbv) (lb rfl) (R34w hA e6) rfl (.inl rfl) rfl rfl rfl (lb rfl) rfl rfl ?_
    rcases tf r7 with c8 | c8
    · replace hvK12 := cT c8 hvK12
      obtain ⟨r10, e9, hvK12⟩ := bindS hvK12
      refine AOps.cc hT hA {} (by (repeat (cbv; simp only [c8])); first | done | cbv) (lb rfl) (R34w hA e9) rfl (.inl rfl) rfl rfl rfl (lb rfl) rfl rfl ?_
      refine AOps.cd hT hA {} (by (repeat (cbv; simp only [c8])); first | done | cbv) (lb rfl) ?_
      cases soI hvK12
      exact oNi ⟨rfl, (by first | (cbv; done) | ((repeat (cbv; simp only [c8])); first | done | cbv))⟩
    · replace hvK12 := cF c8 hvK12
      refine AOps.cd hT hA {} (by (repeat (cbv; simp only [c8])); first | done | cbv) (lb rfl) ?_
      cases soI hvK12
      exact oNi ⟨rfl, (by first | (cbv; done) | ((repeat (cbv; simp only [c8])); first | done | cbv))⟩
  · rintro _ rfl
    refine nT ?_
    rcases tf v11 with c13 | c13
    · replace h := cT c13 h
      refine AWp.cdT rfl (by first | rfl | simp only [c13, Bool.not_true, Bool.not_false, cond_true, cond_false]) ?_
      refine AWp.seq ?_
      refine AWp.rg hT hA {} (by (repeat (cbv; simp only [c13])); first | done | cbv) (lb rfl) ?_
      refine nT ?_
      refine AWp.ret ?_
      refine rT ?_
      cases soI h
      exact ⟨rfl, rfl, rfl, lb rfl, _, rfl⟩
    · replace h := cF c13 h
      refine AWp.cdF rfl (by first | rfl | simp only [c13, Bool.not_true, Bool.not_false, cond_true, cond_false]) ?_
      refine AWp.skip ?_
      refine nT ?_
      refine AWp.seq ?_
      refine AWp.seq ?_
      refine AWp.region ?_
      obtain ⟨r15, e14, h⟩ := bindS h
      refine AOps.cc hT hA {} (by (repeat (cbv; simp only [c13])); first | done | cbv) (lb rfl) (R87w hA e14) rfl (.inl rfl) rfl rfl rfl (lb rfl) rfl rfl ?_
      refine AOps.cd hT hA {} (by (repeat (cbv; simp only [c13])); first | done | cbv) (lb rfl) ?_
      refine nT ?_
      rcases tf r15 with c16 | c16
      · replace h := cT c16 h
        refine AWp.cdF rfl (by first | rfl | simp only [c13, c16, Bool.not_true, Bool.not_false, cond_true, cond_false]) ?_
        refine AWp.skip ?_
        refine nT ?_
        refine AWp.seq ?_
        obtain ⟨_, e20, h⟩ := bindS h
        have f17 := ckI e20
        obtain ⟨_, e21, h⟩ := bindS h
        have f18 := ckI e21
        obtain ⟨_, e22, h⟩ := bindS h
        have f19 := ckI e22
        refine AWp.rg hT hA {} (by (repeat (cbv; simp only [c13, c16, f17, f18, f19])); first | done | cbv) (lb rfl) ?_
        refine nT ?_
        refine AWp.seq ?_
        refine AWp.seq ?_
        refine AWp.rg hT hA {} (by (repeat (cbv; simp only [c13, c16])); first | done | cbv) (lb rfl) ?_
        refine nT ?_
        refine AWp.block ?_
        obtain ⟨xK68, hxK68, K68, hK68, hkK68⟩ := bindK h
        refine AWp.cutX 0 [2, 3, 4, 8] [] 1 (lb rfl) (fun τ => ∃ v67, K68 v67 = some (v89, v90) ∧ τ = { env := [(2, (.d (.list 2 x5))), (3, (.lbox [(.d (.int .i64 x1)), (.d (.list 3 x2))])), (4, (.lbox [(.d (.int .i64 x3)), (.d (.list 3 x4))])), (8, (.mref 0 1 0 x1))], heap := [(.arr 1 v67)], n := 64 }) ?_ ?_
        · skip
          refine AWp.iter hxK68 [2, 3, 4, 8, 31, 32, 33] [] 1 (lb rfl) (fun (v44, v45) => { env := [(2, (.d (.list 2 x5))), (3, (.lbox [(.d (.int .i64 x1)), (.d (.list 3 x2))])), (4, (.lbox [(.d (.int .i64 x3)), (.d (.list 3 x4))])), (8, (.mref 0 1 0 x1)), (31, (.d (.list 2 x5))), (32, (.d (.int .i64 (A.len x5)))), (33, (.d (.int .i64 v44)))], heap := [(.arr 1 v45)], n := 64 }) ⟨rfl, (by first | (cbv; done) | ((repeat (cbv; simp only [c13, c16])); first | done | cbv))⟩ ?_
          rintro ⟨v44, v45⟩ eK68 hsK68
          dsimp only [R48L0] at hsK68
          refine AWp.seq ?_
          refine AWp.rg hT hA {} (by cbv) (lb rfl) ?_
          refine nT ?_
          refine AWp.seq ?_
          rcases tf (A.zlt v44 (A.len x5)) with c46 | c46
          · replace hsK68 := cT c46 hsK68
            refine AWp.cdT rfl (by first | rfl | simp only [c46, Bool.not_true, Bool.not_false, cond_true, cond_false]) ?_
            refine AWp.skip ?_
            refine nT ?_
            refine AWp.seq ?_
            refine AWp.block ?_
            refine AWp.seq ?_
            obtain ⟨⟨a47, a48⟩, e49, hsK68⟩ := bindS hsK68
            obtain ⟨f50, f51⟩ := gtI e49
            refine AWp.rg hT hA { tk := [36] } (by (repeat (cbv; simp only [c46, f50, f51])); first | done | cbv) (lb rfl) ?_
            refine nT ?_
            obtain ⟨_, e52, hsK68⟩ := bindS hsK68
            have f54 := ckI e52
            obtain ⟨_, e53, hsK68⟩ := bindS hsK68
            have f55 := ckI e53
            obtain ⟨a56, e57, hsK68⟩ := bindS hsK68
            have f58 := gcI e57
            obtain ⟨_, e59, hsK68⟩ := bindS hsK68
            have f60 := nkI e59
            obtain ⟨_, e61, hsK68⟩ := bindS hsK68
            have f63 := ckI e61
            obtain ⟨_, e62, hsK68⟩ := bindS hsK68
            have f64 := ckI e62
            obtain ⟨d65, e66, hsK68⟩ := bindS hsK68
            refine AWp.rd hT hA { tk := [45] } rfl (by (repeat (cbv; simp only [c46, f54, f55, f58, f60, f63, f64, e66])); first | done | cbv) (by kernel_rfl) (lb rfl) ?_
            refine nB ?_
            refine nT ?_
            refine AWp.rg hT hA {} (by (repeat (cbv; simp only [c46])); first | done | cbv) (lb rfl) ?_
            exact nT ⟨_, (soI hsK68).symm, rfl, (by first | (cbv; done) | ((repeat (cbv; simp only [c46])); first | done | cbv))⟩
          · replace hsK68 := cF c46 hsK68
            refine AWp.cdF rfl (by first | rfl | simp only [c46, Bool.not_true, Bool.not_false, cond_true, cond_false]) ?_
            refine AWp.exit ?_
            refine xT ?_
            refine xT ?_
            refine exL hsK68 fun hx => ?_
            subst hx
            exact oxI ⟨rfl, _, hkK68, (by first | (cbv; done) | ((repeat (cbv; simp only [c46])); first | done | cbv))⟩
        · rintro _ ⟨v67, hkK68, rfl⟩
          have h := (hK68 _ hkK68)
          refine xB ?_
          refine nT ?_
          refine AWp.seq ?_
          refine AWp.seq ?_
          refine AWp.rg hT hA {} (by cbv) (lb rfl) ?_
          refine nT ?_
          refine AWp.block ?_
          obtain ⟨xK88, hxK88, K88, hK88, hkK88⟩ := bindK h
          refine AWp.cutX 2 [] [] 1 (lb rfl) (fun τ => K88 (.inl ()) = some (v89, v90) ∧ τ = { env := [], heap := [(.arr 1 v67)], n := 64 }) ?_ ?_
          · skip
            refine AWp.iter hxK88 [3, 4, 8, 48, 49, 50] [] 1 (lb rfl) (fun v78 => { env := [(3, (.lbox [(.d (.int .i64 x1)), (.d (.list 3 x2))])), (4, (.lbox [(.d (.int .i64 x3)), (.d (.list 3 x4))])), (8, (.mref 0 1 0 x1)), (48, (.d (.list 2 x5))), (49, (.d (.int .i64 (A.len x5)))), (50, (.d (.int .i64 v78)))], heap := [(.arr 1 v67)], n := 64 }) ⟨rfl, (by cbv)⟩ ?_
            rintro v78 eK88 hsK88
            dsimp only [R48L1] at hsK88
            refine AWp.seq ?_
            refine AWp.rg hT hA {} (by cbv) (lb rfl) ?_
            refine nT ?_
            refine AWp.seq ?_
            rcases tf (A.zlt v78 (A.len x5)) with c79 | c79
            · replace hsK88 := cT c79 hsK88
              refine AWp.cdT rfl (by first | rfl | simp only [c79, Bool.not_true, Bool.not_false, cond_true, cond_false]) ?_
              refine AWp.skip ?_
              refine nT ?_
              refine AWp.seq ?_
              refine AWp.block ?_
              refine AWp.seq ?_
              obtain ⟨⟨a80, a81⟩, e82, hsK88⟩ := bindS hsK88
              obtain ⟨f83, f84⟩ := gtI e82
              refine AWp.rg hT hA { tk := [53] } (by (repeat (cbv; simp only [c79, f83, f84])); first | done | cbv) (lb rfl) ?_
              refine nT ?_
              refine AWp.seq ?_
              refine AWp.region ?_
              obtain ⟨r86, e85, hsK88⟩ := bindS hsK88
              refine AOps.cc hT hA {} (by (repeat (cbv; simp only [c79])); first | done | cbv) (lb rfl) (R96w hA e85) rfl (.inl rfl) rfl rfl rfl (lb rfl) rfl rfl ?_
              refine AOps.cd hT hA {} (by (repeat (cbv; simp only [c79])); first | done | cbv) (lb rfl) ?_
              refine nT ?_
              rcases tf r86 with c87 | c87
              · replace hsK88 := cT c87 hsK88
                refine AWp.cdF rfl (by first | rfl | simp only [c79, c87, Bool.not_true, Bool.not_false, cond_true, cond_false]) ?_
                refine AWp.skip ?_
                refine nB ?_
                refine nT ?_
                refine AWp.rg hT hA {} (by (repeat (cbv; simp only [c79, c87])); first | done | cbv) (lb rfl) ?_
                exact nT ⟨_, (soI hsK88).symm, rfl, (by first | (cbv; done) | ((repeat (cbv; simp only [c79, c87])); first | done | cbv))⟩
              · replace hsK88 := cF c87 hsK88
                refine AWp.cdT rfl (by first | rfl | simp only [c79, c87, Bool.not_true, Bool.not_false, cond_true, cond_false]) ?_
                refine AWp.seq ?_
                refine AWp.rg hT hA {} (by (repeat (cbv; simp only [c79, c87])); first | done | cbv) (lb rfl) ?_
                refine nT ?_
                refine AWp.ret ?_
                refine rB ?_
                refine rT ?_
                refine rT ?_
                refine exL hsK88 fun hx => ?_
                subst hx
                refine oxR ?_
                replace hkK88 := (eR (hK88 _ hkK88))
                refine rB ?_
                refine rT ?_
                cases soI hkK88
                exact ⟨rfl, rfl, rfl, lb rfl, _, rfl⟩
            · replace hsK88 := cF c79 hsK88
              refine AWp.cdF rfl (by first | rfl | simp only [c79, Bool.not_true, Bool.not_false, cond_true, cond_false]) ?_
              refine AWp.exit ?_
              refine xT ?_
              refine xT ?_
              refine exL hsK88 fun hx => ?_
              subst hx
              exact oxI ⟨rfl, hkK88, (by first | (cbv; done) | ((repeat (cbv; simp only [c79])); first | done | cbv))⟩
          · rintro _ ⟨hkK88, rfl⟩
            have h := (eL (hK88 _ hkK88))
            refine xB ?_
            refine nT ?_
            refine AWp.seq ?_
            refine AWp.rg hT hA {} (by cbv) (lb rfl) ?_
            refine nT ?_
            refine AWp.ret ?_
            cases soI h
            exact ⟨rfl, rfl, rfl, lb rfl, _, rfl⟩
      · replace h := cF c16 h
        refine AWp.cdT rfl (by first | rfl | simp only [c13, c16, Bool.not_true, Bool.not_false, cond_true, cond_false]) ?_
        refine AWp.seq ?_
        refine AWp.rg hT hA {} (by (repeat (cbv; simp only [c13, c16])); first | done | cbv) (lb rfl) ?_
        refine nT ?_
        refine AWp.ret ?_
        refine rT ?_
        cases soI h
        exact ⟨rfl, rfl, rfl, lb rfl, _, rfl⟩

theorem R9w {A : Ar} (hA : A = Ar.std) {x1 : Int} {x2 : List D} {x3 : Int} {x4 : List D} {x5 : Int} {x6 : List D} {x7 : Int} {x8 : Int} {v176 : Bool} (h : R9 A x1 x2 x3 x4 x5 x6 x7 x8 = some v176) : ACall Try.prog 9 [(.d (.agg [(.int .i64 x1), (.list 3 x2)])), (.d (.agg [(.int .i64 x3), (.list 3 x4)])), (.d (.agg [(.int .i64 x5), (.list 3 x6)])), (.d (.int .u8 x7)), (.d (.int .u8 x8))] [] (.d (.bool v176)) [] := by
  unfold R9 at h
  refine ACall.enter hT (fn := Try.f9) Try.func9 rfl (by decide) (by simp [Try.f9]) rfl rfl rfl rfl (lb rfl) ?_
  refine AWp.seq ?_
  refine AWp.rg hT hA {} (by cbv) (lb rfl) ?_
  refine nT ?_
  refine AWp.seq ?_
  refine AWp.seq ?_
  refine AWp.rg hT hA {} (by cbv) (lb rfl) ?_
  refine nT ?_
  refine AWp.block ?_
  obtain ⟨xK49, hxK49, K49, hK49, hkK49⟩ := bindK h
  refine AWp.cutX 0 [3, 4, 5, 6, 7] [] 0 (lb rfl) (fun τ => K49 (.inl ()) = some v176 ∧ τ = { env := [(3, (.d (.int .u8 x7))), (4, (.d (.int .u8 x8))), (5, (.lbox [(.d (.int .i64 x1)), (.d (.list 3 x2))])), (6, (.lbox [(.d (.int .i64 x3)), (.d (.list 3 x4))])), (7, (.lbox [(.d (.int .i64 x5)), (.d (.list 3 x6))]))], heap := [], n := 307 }) ?_ ?_
  · skip
    refine AWp.iter hxK49 [3, 4, 5, 6, 7, 48, 49] [] 0 (lb rfl) (fun v28 => { env := [(3, (.d (.int .u8 x7))), (4, (.d (.int .u8 x8))), (5, (.lbox [(.d (.int .i64 x1)), (.d (.list 3 x2))])), (6, (.lbox [(.d (.int .i64 x3)), (.d (.list 3 x4))])), (7, (.lbox [(.d (.int .i64 x5)), (.d (.list 3 x6))])), (48, (.d (.agg [(.int .i64 x1), (.list 3 x2), (.int .i64 x3), (.list 3 x4), (.int .i64 x5), (.list 3 x6)]))), (49, (.d (.int .i64 v28)))], heap := [], n := 307 }) ⟨rfl, (by cbv)⟩ ?_
    rintro v28 eK49 hsK49
    dsimp only [R9L0] at hsK49
    refine AWp.seq ?_
    refine AWp.rg hT hA {} (by cbv) (lb rfl) ?_
    refine nT ?_
    refine AWp.seq ?_
    rcases tf (A.zlt v28 3) with c29 | c29
    · replace hsK49 := cT c29 hsK49
      refine AWp.cdT rfl (by first | rfl | simp only [c29, Bool.not_true, Bool.not_false, cond_true, cond_false]) ?_
      refine AWp.skip ?_
      refine nT ?_
      refine AWp.seq ?_
      refine AWp.block ?_
      refine AWp.seq ?_
      obtain ⟨_, e32, hsK49⟩ := bindS hsK49
      have f30 := ckI e32
      obtain ⟨_, e33, hsK49⟩ := bindS hsK49
      have f31 := ckI e33
      obtain ⟨⟨a36, a37⟩, e34, hsK49⟩ := bindS hsK49
      have f35 := CodL.ok (lc (cI .i64) (l1 (cL 3))) _ _ e34
      refine AWp.rg hT hA { tk := [51] } (by (repeat (cbv; simp only [c29, f30, f31, f35])); first | done | cbv) (lb rfl) ?_
      refine nT ?_
      refine AWp.seq ?_
      obtain ⟨v43, hvK44, hsK49⟩ := bindS hsK49
      refine AWp.cutN [3, 4, 5, 6, 7, 48, 49, 58] [] 0 (lb rfl) (fun τ => τ = { env := [(3, (.d (.int .u8 x7))), (4, (.d (.int .u8 x8))), (5, (.lbox [(.d (.int .i64 x1)), (.d (.list 3 x2))])), (6, (.lbox [(.d (.int .i64 x3)), (.d (.list 3 x4))])), (7, (.lbox [(.d (.int .i64 x5)), (.d (.list 3 x6))])), (48, (.d (.agg [(.int .i64 x1), (.list 3 x2), (.int .i64 x3), (.list 3 x4), (.int .i64 x5), (.list 3 x6)]))), (49, (.d (.int .i64 v28))), (58, (.d (.bool v43)))], heap := [], n := 307 }) ?_ ?_
      · skip
        refine AWp.region ?_
        obtain ⟨r39, e38, hvK44⟩ := bindS hvK44
        refine AOps.cc hT hA {} (by (repeat (cbv; simp only [c29])); first | done | cbv) (lb rfl) (R16w hA e38) rfl (.inl rfl) rfl rfl rfl (lb rfl) rfl rfl ?_
        rcases tf r39 with c40 | c40
        · replace hvK44 := cT c40 hvK44
          refine AOps.cd hT hA {} (by (repeat (cbv; simp only [c29, c40])); first | done | cbv) (lb rfl) ?_
          cases soI hvK44
          exact oNi ⟨rfl, (by first | (cbv; done) | ((repeat (cbv; simp only [c29, c40])); first | done | cbv))⟩
        · replace hvK44 := cF c40 hvK44
          obtain ⟨r42, e41, hvK44⟩ := bindS hvK44
          refine AOps.cc hT hA {} (by (repeat (cbv; simp only [c29, c40])); first | done | cbv) (lb rfl) (R34w hA e41) rfl (.inl rfl) rfl rfl rfl (lb rfl) rfl rfl ?_
          refine AOps.cd hT hA {} (by (repeat (cbv; simp only [c29, c40])); first | done | cbv) (lb rfl) ?_
          cases soI hvK44
          exact oNi ⟨rfl, (by first | (cbv; done) | ((repeat (cbv; simp only [c29, c40])); first | done | cbv))⟩
      · rintro _ rfl
        refine nT ?_
        rcases tf v43 with c45 | c45
        · replace hsK49 := cT c45 hsK49
          refine AWp.cdT rfl (by first | rfl | simp only [c45, Bool.not_true, Bool.not_false, cond_true, cond_false]) ?_
          refine AWp.seq ?_
          refine AWp.region ?_
          obtain ⟨r47, e46, hsK49⟩ := bindS hsK49
          refine AOps.cc hT hA { tk := [59] } (by (repeat (cbv; simp only [c45])); first | done | cbv) (lb rfl) (R17w hA e46) rfl (.inl rfl) rfl rfl rfl (lb rfl) rfl rfl ?_
          refine AOps.cd hT hA { tk := [59] } (by (repeat (cbv; simp only [c45])); first | done | cbv) (lb rfl) ?_
          refine nT ?_
          refine AWp.ret ?_
          refine rB ?_
          refine rT ?_
          refine rT ?_
          refine exL hsK49 fun hx => ?_
          subst hx
          refine oxR ?_
          replace hkK49 := (eR (hK49 _ hkK49))
          refine rB ?_
          refine rT ?_
          cases soI hkK49
          exact ⟨rfl, rfl, rfl, lb rfl, _, rfl⟩
        · replace hsK49 := cF c45 hsK49
          refine AWp.cdF rfl (by first | rfl | simp only [c45, Bool.not_true, Bool.not_false, cond_true, cond_false]) ?_
          refine AWp.skip ?_
          refine nB ?_
          refine nT ?_
          refine AWp.rg hT hA {} (by (repeat (cbv; simp only [c45])); first | done | cbv) (lb rfl) ?_
          exact nT ⟨_, (soI hsK49).symm, rfl, (by first | (cbv; done) | ((repeat (cbv; simp only [c45])); first | done | cbv))⟩
    · replace hsK49 := cF c29 hsK49
      refine AWp.cdF rfl (by first | rfl | simp only [c29, Bool.not_true, Bool.not_false, cond_true, cond_false]) ?_
      refine AWp.exit ?_
      refine xT ?_
      refine xT ?_
      refine exL hsK49 fun hx => ?_
      subst hx
      exact oxI ⟨rfl, hkK49, (by first | (cbv; done) | ((repeat (cbv; simp only [c29])); first | done | cbv))⟩
  · rintro _ ⟨hkK49, rfl⟩
    have h := (eL (hK49 _ hkK49))
    refine xB ?_
    refine nT ?_
    refine AWp.seq ?_
    refine AWp.region ?_
    obtain ⟨⟨r51, r52⟩, e50, h⟩ := bindS h
    refine AOps.cc hT hA {} (by cbv) (lb rfl) (R44w hA e50) rfl (.inl rfl) rfl rfl rfl (lb rfl) rfl rfl ?_
    refine AOps.cd hT hA {} (by cbv) (lb rfl) ?_
    refine nT ?_
    refine AWp.seq ?_
    refine AWp.region ?_
    obtain ⟨⟨r54, r55⟩, e53, h⟩ := bindS h
    refine AOps.cc hT hA {} (by cbv) (lb rfl) (R44w hA e53) rfl (.inl rfl) rfl rfl rfl (lb rfl) rfl rfl ?_
    refine AOps.cd hT hA {} (by cbv) (lb rfl) ?_
    refine nT ?_
    refine AWp.seq ?_
    refine AWp.region ?_
    obtain ⟨⟨r57, r58⟩, e56, h⟩ := bindS h
    refine AOps.cc hT hA {} (by cbv) (lb rfl) (R44w hA e56) rfl (.inl rfl) rfl rfl rfl (lb rfl) rfl rfl ?_
    refine AOps.cd hT hA {} (by cbv) (lb rfl) ?_
    refine nT ?_
    refine AWp.seq ?_
    refine AWp.region ?_
    obtain ⟨⟨r60, r61⟩, e59, h⟩ := bindS h
    refine AOps.cc hT hA {} (by cbv) (lb rfl) (R23w hA e59) rfl (.inl rfl) rfl rfl rfl (lb rfl) rfl rfl ?_
    refine AOps.cd hT hA {} (by cbv) (lb rfl) ?_
    refine nT ?_
    refine AWp.seq ?_
    refine AWp.region ?_
    obtain ⟨⟨r63, r64⟩, e62, h⟩ := bindS h
    refine AOps.cc hT hA {} (by cbv) (lb rfl) (R23w hA e62) rfl (.inl rfl) rfl rfl rfl (lb rfl) rfl rfl ?_
    refine AOps.cd hT hA {} (by cbv) (lb rfl) ?_
    refine nT ?_
    refine AWp.seq ?_
    refine AWp.seq ?_
    obtain ⟨⟨v76, v77, v78⟩, hvK79, h⟩ := bindS h
    refine AWp.cutN [3, 4, 5, 6, 7, 13, 15, 124] [] 0 (lb rfl) (fun τ => τ = { env := [(3, (.d (.int .u8 x7))), (4, (.d (.int .u8 x8))), (5, (.lbox [(.d (.int .i64 x1)), (.d (.list 3 x2))])), (6, (.lbox [(.d (.int .i64 x3)), (.d (.list 3 x4))])), (7, (.lbox [(.d (.int .i64 x5)), (.d (.list 3 x6))])), (13, (.d (.bool v76))), (15, (.d (.bool v77))), (124, (.d (.bool v78)))], heap := [], n := 307 }) ?_ ?_
    · skip
      rcases tf (A.zeq r52 0) with c65 | c65
      · replace hvK79 := cT c65 hvK79
        rcases tf (A.zeq r55 0) with c66 | c66
        · replace hvK79 := cT c66 hvK79
          rcases tf (A.zeq r58 0) with c67 | c67
          · replace hvK79 := cT c67 hvK79
            rcases tf r51 with c68 | c68
            · replace hvK79 := cT c68 hvK79
              rcases tf (A.zeq r61 5) with c69 | c69
              · replace hvK79 := cT c69 hvK79
                rcases tf r57 with c70 | c70
                · replace hvK79 := cT c70 hvK79
                  rcases tf (A.zeq r64 5) with c71 | c71
                  · replace hvK79 := cT c71 hvK79
                    rcases tf r54 with c72 | c72
                    · replace hvK79 := cT c72 hvK79
                      refine AWp.rg hT hA {} (by (repeat (cbv; simp only [c65, c66, c67, c68, c69, c70, c71, c72])); first | done | cbv) (lb rfl) ?_
                      cases soI hvK79
                      exact oNi ⟨rfl, (by first | (cbv; done) | ((repeat (cbv; simp only [c65, c66, c67, c68, c69, c70, c71, c72])); first | done | cbv))⟩
                    · replace hvK79 := cF c72 hvK79
                      refine AWp.rg hT hA {} (by (repeat (cbv; simp only [c65, c66, c67, c68, c69, c70, c71, c72])); first | done | cbv) (lb rfl) ?_
                      cases soI hvK79
                      exact oNi ⟨rfl, (by first | (cbv; done) | ((repeat (cbv; simp only [c65, c66, c67, c68, c69, c70, c71, c72])); first | done | cbv))⟩
                  · replace hvK79 := cF c71 hvK79
                    refine AWp.rg hT hA {} (by (repeat (cbv; simp only [c65, c66, c67, c68, c69, c70, c71])); first | done | cbv) (lb rfl) ?_
                    cases soI hvK79
                    exact oNi ⟨rfl, (by first | (cbv; done) | ((repeat (cbv; simp only [c65, c66, c67, c68, c69, c70, c71])); first | done | cbv))⟩
                · replace hvK79 := cF c70 hvK79
                  rcases tf r54 with c73 | c73
                  · replace hvK79 := cT c73 hvK79
                    refine AWp.rg hT hA {} (by (repeat (cbv; simp only [c65, c66, c67, c68, c69, c70, c73])); first | done | cbv) (lb rfl) ?_
                    cases soI hvK79
                    exact oNi ⟨rfl, (by first | (cbv; done) | ((repeat (cbv; simp only [c65, c66, c67, c68, c69, c70, c73])); first | done | cbv))⟩
                  · replace hvK79 := cF c73 hvK79
                    refine AWp.rg hT hA {} (by (repeat (cbv; simp only [c65, c66, c67, c68, c69, c70, c73])); first | done | cbv) (lb rfl) ?_
                    cases soI hvK79
                    exact oNi ⟨rfl, (by first | (cbv; done) | ((repeat (cbv; simp only [c65, c66, c67, c68, c69, c70, c73])); first | done | cbv))⟩
              · replace hvK79 := cF c69 hvK79
                refine AWp.rg hT hA {} (by (repeat (cbv; simp only [c65, c66, c67, c68, c69])); first | done | cbv) (lb rfl) ?_
                cases soI hvK79
                exact oNi ⟨rfl, (by first | (cbv; done) | ((repeat (cbv; simp only [c65, c66, c67, c68, c69])); first | done | cbv))⟩
            · replace hvK79 := cF c68 hvK79
              rcases tf r57 with c74 | c74
              · replace hvK79 := cT c74 hvK79
                rcases tf (A.zeq r64 5) with c75 | c75
                · replace hvK79 := cT c75 hvK79
                  refine AWp.rg hT hA {} (by (repeat (cbv; simp only [c65, c66, c67, c68, c74, c75])); first | done | cbv) (lb rfl) ?_
                  cases soI hvK79
                  exact oNi ⟨rfl, (by first | (cbv; done) | ((repeat (cbv; simp only [c65, c66, c67, c68, c74, c75])); first | done | cbv))⟩
                · replace hvK79 := cF c75 hvK79
                  refine AWp.rg hT hA {} (by (repeat (cbv; simp only [c65, c66, c67, c68, c74, c75])); first | done | cbv) (lb rfl) ?_
                  cases soI hvK79
                  exact oNi ⟨rfl, (by first | (cbv; done) | ((repeat (cbv; simp only [c65, c66, c67, c68, c74, c75])); first | done | cbv))⟩
              · replace hvK79 := cF c74 hvK79
                refine AWp.rg hT hA {} (by (repeat (cbv; simp only [c65, c66, c67, c68, c74])); first | done | cbv) (lb rfl) ?_
                cases soI hvK79
                exact oNi ⟨rfl, (by first | (cbv; done) | ((repeat (cbv; simp only [c65, c66, c67, c68, c74])); first | done | cbv))⟩
          · replace hvK79 := cF c67 hvK79
            refine AWp.rg hT hA {} (by (repeat (cbv; simp only [c65, c66, c67])); first | done | cbv) (lb rfl) ?_
            cases soI hvK79
            exact oNi ⟨rfl, (by first | (cbv; done) | ((repeat (cbv; simp only [c65, c66, c67])); first | done | cbv))⟩
        · replace hvK79 := cF c66 hvK79
          refine AWp.rg hT hA {} (by (repeat (cbv; simp only [c65, c66])); first | done | cbv) (lb rfl) ?_
          cases soI hvK79
          exact oNi ⟨rfl, (by first | (cbv; done) | ((repeat (cbv; simp only [c65, c66])); first | done | cbv))⟩
      · replace hvK79 := cF c65 hvK79
        refine AWp.rg hT hA {} (by (repeat (cbv; simp only [c65])); first | done | cbv) (lb rfl) ?_
        cases soI hvK79
        exact oNi ⟨rfl, (by first | (cbv; done) | ((repeat (cbv; simp only [c65])); first | done | cbv))⟩
    · rintro _ rfl
      refine nT ?_
      rcases tf v78 with c80 | c80
      · replace h := cT c80 h
        refine AWp.cdT rfl (by first | rfl | simp only [c80, Bool.not_true, Bool.not_false, cond_true, cond_false]) ?_
        refine AWp.seq ?_
        refine AWp.rg hT hA {} (by (repeat (cbv; simp only [c80])); first | done | cbv) (lb rfl) ?_
        refine nT ?_
        refine AWp.ret ?_
        refine rT ?_
        cases soI h
        exact ⟨rfl, rfl, rfl, lb rfl, _, rfl⟩
      · replace h := cF c80 h
        refine AWp.cdF rfl (by first | rfl | simp only [c80, Bool.not_true, Bool.not_false, cond_true, cond_false]) ?_
        refine AWp.skip ?_
        refine nT ?_
        refine AWp.seq ?_
        refine AWp.seq ?_
        obtain ⟨⟨v82, v83⟩, hvK84, h⟩ := bindS h
        refine AWp.cutN [3, 4, 5, 6, 7, 13, 128] [] 0 (lb rfl) (fun τ => τ = { env := [(3, (.d (.int .u8 x7))), (4, (.d (.int .u8 x8))), (5, (.lbox [(.d (.int .i64 x1)), (.d (.list 3 x2))])), (6, (.lbox [(.d (.int .i64 x3)), (.d (.list 3 x4))])), (7, (.lbox [(.d (.int .i64 x5)), (.d (.list 3 x6))])), (13, (.d (.bool v82))), (128, (.d (.bool v83)))], heap := [], n := 307 }) ?_ ?_
        · skip
          rcases tf v76 with c81 | c81
          · replace hvK84 := cT c81 hvK84
            refine AWp.rg hT hA {} (by (repeat (cbv; simp only [c80, c81])); first | done | cbv) (lb rfl) ?_
            cases soI hvK84
            exact oNi ⟨rfl, (by first | (cbv; done) | ((repeat (cbv; simp only [c80, c81])); first | done | cbv))⟩
          · replace hvK84 := cF c81 hvK84
            refine AWp.rg hT hA {} (by (repeat (cbv; simp only [c80, c81])); first | done | cbv) (lb rfl) ?_
            cases soI hvK84
            exact oNi ⟨rfl, (by first | (cbv; done) | ((repeat (cbv; simp only [c80, c81])); first | done | cbv))⟩
        · rintro _ rfl
          refine nT ?_
          obtain ⟨K111, hK111, h⟩ := jnI h
          refine AWp.cutN [3, 4, 5, 6, 13] [] 0 (lb rfl) (fun τ => K111 () = some v176 ∧ τ = { env := [(3, (.d (.int .u8 x7))), (4, (.d (.int .u8 x8))), (5, (.lbox [(.d (.int .i64 x1)), (.d (.list 3 x2))])), (6, (.lbox [(.d (.int .i64 x3)), (.d (.list 3 x4))])), (13, (.d (.bool v82)))], heap := [], n := 307 }) ?_ ?_
          · skip
            rcases tf v83 with c85 | c85
            · replace h := cT c85 h
              refine AWp.cdT rfl (by first | rfl | simp only [c85, Bool.not_true, Bool.not_false, cond_true, cond_false]) ?_
              refine AWp.seq ?_
              refine AWp.region ?_
              obtain ⟨⟨r87, r88⟩, e86, h⟩ := bindS h
              refine AOps.cc hT hA {} (by (repeat (cbv; simp only [c85])); first | done | cbv) (lb rfl) (R46w hA e86) rfl (.inl rfl) rfl rfl rfl (lb rfl) rfl rfl ?_
              refine AOps.cd hT hA {} (by (repeat (cbv; simp only [c85])); first | done | cbv) (lb rfl) ?_
              refine nT ?_
              refine AWp.seq ?_
              refine AWp.region ?_
              obtain ⟨⟨r90, r91⟩, e89, h⟩ := bindS h
              refine AOps.cc hT hA {} (by (repeat (cbv; simp only [c85])); first | done | cbv) (lb rfl) (R46w hA e89) rfl (.inl rfl) rfl rfl rfl (lb rfl) rfl rfl ?_
              refine AOps.cd hT hA {} (by (repeat (cbv; simp only [c85])); first | done | cbv) (lb rfl) ?_
              refine nT ?_
              refine AWp.seq ?_
              refine AWp.region ?_
              obtain ⟨⟨r93, r94⟩, e92, h⟩ := bindS h
              refine AOps.cc hT hA {} (by (repeat (cbv; simp only [c85])); first | done | cbv) (lb rfl) (R47w hA e92) rfl (.inl rfl) rfl rfl rfl (lb rfl) rfl rfl ?_
              refine AOps.cd hT hA {} (by (repeat (cbv; simp only [c85])); first | done | cbv) (lb rfl) ?_
              refine nT ?_
              refine AWp.seq ?_
              refine AWp.region ?_
              obtain ⟨⟨r96, r97⟩, e95, h⟩ := bindS h
              refine AOps.cc hT hA {} (by (repeat (cbv; simp only [c85])); first | done | cbv) (lb rfl) (R39w hA e95) rfl (.inl rfl) rfl rfl rfl (lb rfl) rfl rfl ?_
              refine AOps.cd hT hA {} (by (repeat (cbv; simp only [c85])); first | done | cbv) (lb rfl) ?_
              refine nT ?_
              refine AWp.seq ?_
              refine AWp.region ?_
              obtain ⟨⟨r99, r100⟩, e98, h⟩ := bindS h
              refine AOps.cc hT hA {} (by (repeat (cbv; simp only [c85])); first | done | cbv) (lb rfl) (R48w hA e98) rfl (.inl rfl) rfl rfl rfl (lb rfl) rfl rfl ?_
              refine AOps.cd hT hA {} (by (repeat (cbv; simp only [c85])); first | done | cbv) (lb rfl) ?_
              refine nT ?_
              refine AWp.seq ?_
              obtain ⟨v108, hvK109, h⟩ := bindS h
              refine AWp.cutN [3, 4, 5, 6, 13, 193] [] 0 (lb rfl) (fun τ => τ = { env := [(3, (.d (.int .u8 x7))), (4, (.d (.int .u8 x8))), (5, (.lbox [(.d (.int .i64 x1)), (.d (.list 3 x2))])), (6, (.lbox [(.d (.int .i64 x3)), (.d (.list 3 x4))])), (13, (.d (.bool v82))), (193, (.d (.bool v108)))], heap := [], n := 307 }) ?_ ?_
              · skip
                rcases tf (A.zeq r88 0) with c101 | c101
                · replace hvK109 := cT c101 hvK109
                  rcases tf (A.zeq r91 0) with c102 | c102
                  · replace hvK109 := cT c102 hvK109
                    rcases tf (A.zeq r94 0) with c103 | c103
                    · replace hvK109 := cT c103 hvK109
                      rcases tf (A.zeq r97 0) with c104 | c104
                      · replace hvK109 := cT c104 hvK109
                        rcases tf (A.zeq r100 0) with c105 | c105
                        · replace hvK109 := cT c105 hvK109
                          rcases tf r99 with c106 | c106
                          · replace hvK109 := cT c106 hvK109
                            rcases tf (A.zeq (A.len r90) 0) with c107 | c107
                            · replace hvK109 := cT c107 hvK109
                              refine AWp.rg hT hA {} (by (repeat (cbv; simp only [c85, c101, c102, c103, c104, c105, c106, c107])); first | done | cbv) (lb rfl) ?_
                              cases soI hvK109
                              exact oNi ⟨rfl, (by first | (cbv; done) | ((repeat (cbv; simp only [c85, c101, c102, c103, c104, c105, c106, c107])); first | done | cbv))⟩
                            · replace hvK109 := cF c107 hvK109
                              refine AWp.rg hT hA {} (by (repeat (cbv; simp only [c85, c101, c102, c103, c104, c105, c106, c107])); first | done | cbv) (lb rfl) ?_
                              cases soI hvK109
                              exact oNi ⟨rfl, (by first | (cbv; done) | ((repeat (cbv; simp only [c85, c101, c102, c103, c104, c105, c106, c107])); first | done | cbv))⟩
                          · replace hvK109 := cF c106 hvK109
                            refine AWp.rg hT hA {} (by (repeat (cbv; simp only [c85, c101, c102, c103, c104, c105, c106])); first | done | cbv) (lb rfl) ?_
                            cases soI hvK109
                            exact oNi ⟨rfl, (by first | (cbv; done) | ((repeat (cbv; simp only [c85, c101, c102, c103, c104, c105, c106])); first | done | cbv))⟩
                        · replace hvK109 := cF c105 hvK109
                          refine AWp.rg hT hA {} (by (repeat (cbv; simp only [c85, c101, c102, c103, c104, c105])); first | done | cbv) (lb rfl) ?_
                          cases soI hvK109
                          exact oNi ⟨rfl, (by first | (cbv; done) | ((repeat (cbv; simp only [c85, c101, c102, c103, c104, c105])); first | done | cbv))⟩
                      · replace hvK109 := cF c104 hvK109
                        refine AWp.rg hT hA {} (by (repeat (cbv; simp only [c85, c101, c102, c103, c104])); first | done | cbv) (lb rfl) ?_
                        cases soI hvK109
                        exact oNi ⟨rfl, (by first | (cbv; done) | ((repeat (cbv; simp only [c85, c101, c102, c103, c104])); first | done | cbv))⟩
                    · replace hvK109 := cF c103 hvK109
                      refine AWp.rg hT hA {} (by (repeat (cbv; simp only [c85, c101, c102, c103])); first | done | cbv) (lb rfl) ?_
                      cases soI hvK109
                      exact oNi ⟨rfl, (by first | (cbv; done) | ((repeat (cbv; simp only [c85, c101, c102, c103])); first | done | cbv))⟩
                  · replace hvK109 := cF c102 hvK109
                    refine AWp.rg hT hA {} (by (repeat (cbv; simp only [c85, c101, c102])); first | done | cbv) (lb rfl) ?_
                    cases soI hvK109
                    exact oNi ⟨rfl, (by first | (cbv; done) | ((repeat (cbv; simp only [c85, c101, c102])); first | done | cbv))⟩
                · replace hvK109 := cF c101 hvK109
                  refine AWp.rg hT hA {} (by (repeat (cbv; simp only [c85, c101])); first | done | cbv) (lb rfl) ?_
                  cases soI hvK109
                  exact oNi ⟨rfl, (by first | (cbv; done) | ((repeat (cbv; simp only [c85, c101])); first | done | cbv))⟩
              · rintro _ rfl
                refine nT ?_
                rcases tf v108 with c110 | c110
                · replace h := cT c110 h
                  refine AWp.cdT rfl (by first | rfl | simp only [c110, Bool.not_true, Bool.not_false, cond_true, cond_false]) ?_
                  refine AWp.seq ?_
                  refine AWp.rg hT hA {} (by (repeat (cbv; simp only [c110])); first | done | cbv) (lb rfl) ?_
                  refine nT ?_
                  refine AWp.ret ?_
                  refine oNr ?_
                  refine rT ?_
                  cases soI h
                  exact ⟨rfl, rfl, rfl, lb rfl, _, rfl⟩
                · replace h := cF c110 h
                  refine AWp.cdF rfl (by first | rfl | simp only [c110, Bool.not_true, Bool.not_false, cond_true, cond_false]) ?_
                  refine AWp.skip ?_
                  exact oNi ⟨rfl, h, (by first | (cbv; done) | ((repeat (cbv; simp only [c110])); first | done | cbv))⟩
            · replace h := cF c85 h
              refine AWp.cdF rfl (by first | rfl | simp only [c85, Bool.not_true, Bool.not_false, cond_true, cond_false]) ?_
              refine AWp.skip ?_
              exact oNi ⟨rfl, h, (by first | (cbv; done) | ((repeat (cbv; simp only [c85])); first | done | cbv))⟩
          · rintro _ ⟨h, rfl⟩
            replace h := hK111 _ h
            refine nT ?_
            refine AWp.seq ?_
            obtain ⟨_, e112, h⟩ := bindS h
            have f113 := nkI e112
            refine AWp.rg hT hA {} (by (repeat (cbv; simp only [f113])); first | done | cbv) (lb rfl) ?_
            refine nT ?_
            refine AWp.seq ?_
            refine AWp.region ?_
            obtain ⟨⟨r115, r116, r117⟩, e114, h⟩ := bindS h
            refine AOps.cc hT hA { tk := [202] } (by cbv) (lb rfl) (R43w hA e114) rfl (.inl rfl) rfl rfl rfl (lb rfl) rfl rfl ?_
            refine AOps.cd hT hA { tk := [202] } (by cbv) (lb rfl) ?_
            refine nT ?_
            refine AWp.seq ?_
            refine AWp.region ?_
            obtain ⟨⟨r119, r120, r121⟩, e118, h⟩ := bindS h
            refine AOps.cc hT hA { tk := [208] } (by cbv) (lb rfl) (R43w hA e118) rfl (.inl rfl) rfl rfl rfl (lb rfl) rfl rfl ?_
            refine AOps.cd hT hA { tk := [208] } (by cbv) (lb rfl) ?_
            refine nT ?_
            refine AWp.seq ?_
            refine AWp.region ?_
            obtain ⟨⟨r123, r124⟩, e122, h⟩ := bindS h
            refine AOps.cc hT hA {} (by cbv) (lb rfl) (R44w hA e122) rfl (.inl rfl) rfl rfl rfl (lb rfl) rfl rfl ?_
            refine AOps.cd hT hA {} (by cbv) (lb rfl) ?_
            refine nT ?_
            refine AWp.seq ?_
            refine AWp.seq ?_
            obtain ⟨⟨v129, v130⟩, hvK131, h⟩ := bindS h
            refine AWp.cutN [4, 5, 6, 13, 232] [] 0 (lb rfl) (fun τ => τ = { env := [(4, (.d (.int .u8 x8))), (5, (.lbox [(.d (.int .i64 x1)), (.d (.list 3 x2))])), (6, (.lbox [(.d (.int .i64 x3)), (.d (.list 3 x4))])), (13, (.d (.bool v129))), (232, (.d (.bool v130)))], heap := [], n := 307 }) ?_ ?_
            · skip
              rcases tf (A.zeq r117 0) with c125 | c125
              · replace hvK131 := cT c125 hvK131
                rcases tf (A.zeq r121 0) with c126 | c126
                · replace hvK131 := cT c126 hvK131
                  rcases tf (A.zeq r124 0) with c127 | c127
                  · replace hvK131 := cT c127 hvK131
                    rcases tf v82 with c128 | c128
                    · replace hvK131 := cT c128 hvK131
                      refine AWp.rg hT hA {} (by (repeat (cbv; simp only [c125, c126, c127, c128])); first | done | cbv) (lb rfl) ?_
                      cases soI hvK131
                      exact oNi ⟨rfl, (by first | (cbv; done) | ((repeat (cbv; simp only [c125, c126, c127, c128])); first | done | cbv))⟩
                    · replace hvK131 := cF c128 hvK131
                      refine AWp.rg hT hA {} (by (repeat (cbv; simp only [c125, c126, c127, c128])); first | done | cbv) (lb rfl) ?_
                      cases soI hvK131
                      exact oNi ⟨rfl, (by first | (cbv; done) | ((repeat (cbv; simp only [c125, c126, c127, c128])); first | done | cbv))⟩
                  · replace hvK131 := cF c127 hvK131
                    refine AWp.rg hT hA {} (by (repeat (cbv; simp only [c125, c126, c127])); first | done | cbv) (lb rfl) ?_
                    cases soI hvK131
                    exact oNi ⟨rfl, (by first | (cbv; done) | ((repeat (cbv; simp only [c125, c126, c127])); first | done | cbv))⟩
                · replace hvK131 := cF c126 hvK131
                  refine AWp.rg hT hA {} (by (repeat (cbv; simp only [c125, c126])); first | done | cbv) (lb rfl) ?_
                  cases soI hvK131
                  exact oNi ⟨rfl, (by first | (cbv; done) | ((repeat (cbv; simp only [c125, c126])); first | done | cbv))⟩
              · replace hvK131 := cF c125 hvK131
                refine AWp.rg hT hA {} (by (repeat (cbv; simp only [c125])); first | done | cbv) (lb rfl) ?_
                cases soI hvK131
                exact oNi ⟨rfl, (by first | (cbv; done) | ((repeat (cbv; simp only [c125])); first | done | cbv))⟩
            · rintro _ rfl
              refine nT ?_
              rcases tf v130 with c132 | c132
              · replace h := cT c132 h
                refine AWp.cdT rfl (by first | rfl | simp only [c132, Bool.not_true, Bool.not_false, cond_true, cond_false]) ?_
                refine AWp.seq ?_
                refine AWp.rg hT hA {} (by (repeat (cbv; simp only [c132])); first | done | cbv) (lb rfl) ?_
                refine nT ?_
                refine AWp.ret ?_
                refine rT ?_
                cases soI h
                exact ⟨rfl, rfl, rfl, lb rfl, _, rfl⟩
              · replace h := cF c132 h
                refine AWp.cdF rfl (by first | rfl | simp only [c132, Bool.not_true, Bool.not_false, cond_true, cond_false]) ?_
                refine AWp.skip ?_
                refine nT ?_
                refine AWp.seq ?_
                refine AWp.seq ?_
                refine AWp.region ?_
                obtain ⟨⟨r134, r135, r136⟩, e133, h⟩ := bindS h
                refine AOps.cc hT hA { tk := [236] } (by (repeat (cbv; simp only [c132])); first | done | cbv) (lb rfl) (R28w hA e133) rfl (.inl rfl) rfl rfl rfl (lb rfl) rfl rfl ?_
                refine AOps.cd hT hA { tk := [236] } (by (repeat (cbv; simp only [c132])); first | done | cbv) (lb rfl) ?_
                refine nT ?_
                refine AWp.seq ?_
                refine AWp.rg hT hA {} (by (repeat (cbv; simp only [c132])); first | done | cbv) (lb rfl) ?_
                refine nT ?_
                obtain ⟨K153, hK153, h⟩ := jnI h
                refine AWp.cutN [4, 5, 6, 13] [] 0 (lb rfl) (fun τ => ∃ v152, K153 v152 = some v176 ∧ τ = { env := [(4, (.d (.int .u8 x8))), (5, (.lbox [(.d (.int .i64 x1)), (.d (.list 3 x2))])), (6, (.lbox [(.d (.int .i64 x3)), (.d (.list 3 x4))])), (13, (.d (.bool v152)))], heap := [], n := 307 }) ?_ ?_
                · skip
                  rcases tf (A.zeq r136 0) with c137 | c137
                  · replace h := cT c137 h
                    refine AWp.cdT rfl (by first | rfl | simp only [c132, c137, Bool.not_true, Bool.not_false, cond_true, cond_false]) ?_
                    refine AWp.seq ?_
                    refine AWp.region ?_
                    obtain ⟨⟨r139, r140⟩, e138, h⟩ := bindS h
                    refine AOps.cc hT hA {} (by (repeat (cbv; simp only [c132, c137])); first | done | cbv) (lb rfl) (R44w hA e138) rfl (.inl rfl) rfl rfl rfl (lb rfl) rfl rfl ?_
                    refine AOps.cd hT hA {} (by (repeat (cbv; simp only [c132, c137])); first | done | cbv) (lb rfl) ?_
                    refine nT ?_
                    refine AWp.seq ?_
                    refine AWp.region ?_
                    obtain ⟨⟨r142, r143⟩, e141, h⟩ := bindS h
                    refine AOps.cc hT hA {} (by (repeat (cbv; simp only [c132, c137])); first | done | cbv) (lb rfl) (R23w hA e141) rfl (.inl rfl) rfl rfl rfl (lb rfl) rfl rfl ?_
                    refine AOps.cd hT hA {} (by (repeat (cbv; simp only [c132, c137])); first | done | cbv) (lb rfl) ?_
                    refine nT ?_
                    refine AWp.seq ?_
                    obtain ⟨⟨v147, v148⟩, hvK149, h⟩ := bindS h
                    refine AWp.cutN [4, 5, 6, 13, 266] [] 0 (lb rfl) (fun τ => τ = { env := [(4, (.d (.int .u8 x8))), (5, (.lbox [(.d (.int .i64 x1)), (.d (.list 3 x2))])), (6, (.lbox [(.d (.int .i64 x3)), (.d (.list 3 x4))])), (13, (.d (.bool v147))), (266, (.d (.bool v148)))], heap := [], n := 307 }) ?_ ?_
                    · skip
                      rcases tf (A.zeq r140 0) with c144 | c144
                      · replace hvK149 := cT c144 hvK149
                        rcases tf (A.beq r139 (A.zeq r143 5)) with c145 | c145
                        · replace hvK149 := cT c145 hvK149
                          rcases tf v129 with c146 | c146
                          · replace hvK149 := cT c146 hvK149
                            refine AWp.rg hT hA {} (by (repeat (cbv; simp only [c132, c137, c144, c145, c146])); first | done | cbv) (lb rfl) ?_
                            cases soI hvK149
                            exact oNi ⟨rfl, (by first | (cbv; done) | ((repeat (cbv; simp only [c132, c137, c144, c145, c146])); first | done | cbv))⟩
                          · replace hvK149 := cF c146 hvK149
                            refine AWp.rg hT hA {} (by (repeat (cbv; simp only [c132, c137, c144, c145, c146])); first | done | cbv) (lb rfl) ?_
                            cases soI hvK149
                            exact oNi ⟨rfl, (by first | (cbv; done) | ((repeat (cbv; simp only [c132, c137, c144, c145, c146])); first | done | cbv))⟩
                        · replace hvK149 := cF c145 hvK149
                          refine AWp.rg hT hA {} (by (repeat (cbv; simp only [c132, c137, c144, c145])); first | done | cbv) (lb rfl) ?_
                          cases soI hvK149
                          exact oNi ⟨rfl, (by first | (cbv; done) | ((repeat (cbv; simp only [c132, c137, c144, c145])); first | done | cbv))⟩
                      · replace hvK149 := cF c144 hvK149
                        refine AWp.rg hT hA {} (by (repeat (cbv; simp only [c132, c137, c144])); first | done | cbv) (lb rfl) ?_
                        cases soI hvK149
                        exact oNi ⟨rfl, (by first | (cbv; done) | ((repeat (cbv; simp only [c132, c137, c144])); first | done | cbv))⟩
                    · rintro _ rfl
                      refine nT ?_
                      rcases tf v148 with c150 | c150
                      · replace h := cT c150 h
                        refine AWp.cdT rfl (by first | rfl | simp only [c150, Bool.not_true, Bool.not_false, cond_true, cond_false]) ?_
                        refine AWp.seq ?_
                        refine AWp.rg hT hA {} (by (repeat (cbv; simp only [c150])); first | done | cbv) (lb rfl) ?_
                        refine nT ?_
                        refine AWp.ret ?_
                        refine oNr ?_
                        refine rT ?_
                        cases soI h
                        exact ⟨rfl, rfl, rfl, lb rfl, _, rfl⟩
                      · replace h := cF c150 h
                        refine AWp.cdF rfl (by first | rfl | simp only [c150, Bool.not_true, Bool.not_false, cond_true, cond_false]) ?_
                        refine AWp.skip ?_
                        exact oNi ⟨rfl, _, h, (by first | (cbv; done) | ((repeat (cbv; simp only [c150])); first | done | cbv))⟩
                  · replace h := cF c137 h
                    refine AWp.cdF rfl (by first | rfl | simp only [c132, c137, Bool.not_true, Bool.not_false, cond_true, cond_false]) ?_
                    refine AWp.seq ?_
                    refine AWp.rg hT hA {} (by (repeat (cbv; simp only [c132, c137])); first | done | cbv) (lb rfl) ?_
                    refine nT ?_
                    rcases tf (A.zeq r136 4) with c151 | c151
                    · replace h := cT c151 h
                      refine AWp.cdF rfl (by first | rfl | simp only [c132, c137, c151, Bool.not_true, Bool.not_false, cond_true, cond_false]) ?_
                      refine AWp.skip ?_
                      exact oNi ⟨rfl, _, h, (by first | (cbv; done) | ((repeat (cbv; simp only [c132, c137, c151])); first | done | cbv))⟩
                    · replace h := cF c151 h
                      refine AWp.cdT rfl (by first | rfl | simp only [c132, c137, c151, Bool.not_true, Bool.not_false, cond_true, cond_false]) ?_
                      refine AWp.seq ?_
                      refine AWp.rg hT hA {} (by (repeat (cbv; simp only [c132, c137, c151])); first | done | cbv) (lb rfl) ?_
                      refine nT ?_
                      refine AWp.ret ?_
                      refine oNr ?_
                      refine rT ?_
                      cases soI h
                      exact ⟨rfl, rfl, rfl, lb rfl, _, rfl⟩
                · rintro _ ⟨v152, h, rfl⟩
                  replace h := hK153 _ h
                  refine nT ?_
                  refine AWp.seq ?_
                  refine AWp.seq ?_
                  refine AWp.rg hT hA {} (by cbv) (lb rfl) ?_
                  refine nT ?_
                  rcases tf (A.zeq (A.len x2) 0) with c154 | c154
                  · replace h := cT c154 h
                    refine AWp.cdT rfl (by first | rfl | simp only [c154, Bool.not_true, Bool.not_false, cond_true, cond_false]) ?_
                    refine AWp.seq ?_
                    refine AWp.region ?_
                    obtain ⟨r156, e155, h⟩ := bindS h
                    refine AOps.cc hT hA { tk := [273] } (by (repeat (cbv; simp only [c154])); first | done | cbv) (lb rfl) (R17w hA e155) rfl (.inl rfl) rfl rfl rfl (lb rfl) rfl rfl ?_
                    refine AOps.cd hT hA { tk := [273] } (by (repeat (cbv; simp only [c154])); first | done | cbv) (lb rfl) ?_
                    refine nT ?_
                    refine AWp.ret ?_
                    refine rT ?_
                    cases soI h
                    exact ⟨rfl, rfl, rfl, lb rfl, _, rfl⟩
                  · replace h := cF c154 h
                    refine AWp.cdF rfl (by first | rfl | simp only [c154, Bool.not_true, Bool.not_false, cond_true, cond_false]) ?_
                    refine AWp.skip ?_
                    refine nT ?_
                    refine AWp.seq ?_
                    refine AWp.regionDraw rfl (lb rfl) ?_
                    obtain ⟨_, e157, h⟩ := bindS h
                    have f158 := nkI e157
                    obtain ⟨⟨r160, r161, r162⟩, e159, h⟩ := bindS h
                    refine DOps.c0 hT hA { tk := [283] } rfl (by (repeat (cbv; simp only [c154, f158])); first | done | cbv) (R45w hA e159) rfl rfl (lb rfl) rfl rfl ?_
                    refine DOps.cd hT hA { tk := [283] } rfl (by (repeat (cbv; simp only [c154, f158])); first | done | cbv) (by kernel_rfl) ?_
                    refine nT ?_
                    refine AWp.seq ?_
                    refine AWp.region ?_
                    obtain ⟨⟨r164, r165⟩, e163, h⟩ := bindS h
                    refine AOps.cc hT hA {} (by (repeat (cbv; simp only [c154])); first | done | cbv) (lb rfl) (R44w hA e163) rfl (.inl rfl) rfl rfl rfl (lb rfl) rfl rfl ?_
                    refine AOps.cd hT hA {} (by (repeat (cbv; simp only [c154])); first | done | cbv) (lb rfl) ?_
                    refine nT ?_
                    refine AWp.seq ?_
                    obtain ⟨v174, hvK175, h⟩ := bindS h
                    refine AWp.cutN [10] [] 0 (lb rfl) (fun τ => τ = { env := [(10, (.d (.bool v174)))], heap := [], n := 307 }) ?_ ?_
                    · skip
                      refine AWp.region ?_
                      rcases tf (A.zeq r162 0) with c166 | c166
                      · replace hvK175 := cT c166 hvK175
                        rcases tf (A.zeq r165 0) with c167 | c167
                        · replace hvK175 := cT c167 hvK175
                          rcases tf v152 with c168 | c168
                          · replace hvK175 := cT c168 hvK175
                            rcases tf r164 with c169 | c169
                            · replace hvK175 := cT c169 hvK175
                              obtain ⟨r171, e170, hvK175⟩ := bindS hvK175
                              refine AOps.cc hT hA { tk := [306] } (by (repeat (cbv; simp only [c154, c166, c167, c168, c169])); first | done | cbv) (lb rfl) (R17w hA e170) rfl (.inl rfl) rfl rfl rfl (lb rfl) rfl rfl ?_
                              refine AOps.cd hT hA { tk := [306] } (by (repeat (cbv; simp only [c154, c166, c167, c168, c169])); first | done | cbv) (lb rfl) ?_
                              cases soI hvK175
                              exact oNi ⟨rfl, (by first | (cbv; done) | ((repeat (cbv; simp only [c154, c166, c167, c168, c169])); first | done | cbv))⟩
                            · replace hvK175 := cF c169 hvK175
                              refine AOps.cd hT hA { tk := [306] } (by (repeat (cbv; simp only [c154, c166, c167, c168, c169])); first | done | cbv) (lb rfl) ?_
                              cases soI hvK175
                              exact oNi ⟨rfl, (by first | (cbv; done) | ((repeat (cbv; simp only [c154, c166, c167, c168, c169])); first | done | cbv))⟩
                          · replace hvK175 := cF c168 hvK175
                            obtain ⟨r173, e172, hvK175⟩ := bindS hvK175
                            refine AOps.cc hT hA { tk := [306] } (by (repeat (cbv; simp only [c154, c166, c167, c168])); first | done | cbv) (lb rfl) (R17w hA e172) rfl (.inl rfl) rfl rfl rfl (lb rfl) rfl rfl ?_
                            refine AOps.cd hT hA { tk := [306] } (by (repeat (cbv; simp only [c154, c166, c167, c168])); first | done | cbv) (lb rfl) ?_
                            cases soI hvK175
                            exact oNi ⟨rfl, (by first | (cbv; done) | ((repeat (cbv; simp only [c154, c166, c167, c168])); first | done | cbv))⟩
                        · replace hvK175 := cF c167 hvK175
                          refine AOps.cd hT hA { tk := [306] } (by (repeat (cbv; simp only [c154, c166, c167])); first | done | cbv) (lb rfl) ?_
                          cases soI hvK175
                          exact oNi ⟨rfl, (by first | (cbv; done) | ((repeat (cbv; simp only [c154, c166, c167])); first | done | cbv))⟩
                      · replace hvK175 := cF c166 hvK175
                        refine AOps.cd hT hA { tk := [306] } (by (repeat (cbv; simp only [c154, c166])); first | done | cbv) (lb rfl) ?_
                        cases soI hvK175
                        exact oNi ⟨rfl, (by first | (cbv; done) | ((repeat (cbv; simp only [c154, c166])); first | done | cbv))⟩
                    · rintro _ rfl
                      refine nT ?_
                      refine AWp.ret ?_
                      cases soI h
                      exact ⟨rfl, rfl, rfl, lb rfl, _, rfl⟩
end Go.Am
