/- Own text: Genw1. -/
import Derived.Test.YtcnplegmmmobcaaGenw0
set_option maxRecDepth 100000
set_option maxHeartbeats 2000000
set_option linter.unusedVariables false
set_option linter.unusedSimpArgs false
namespace Go.Am
open Go Go.Proofs
theorem R90w {A : Ar} (hA : A = Ar.std) {x1 : List D} {x2 : List D} {v382 : List D} (h : R90 A x1 x2 = some v382) : ACall Try.prog 90 [(.ptr 0 0), (.ptr 1 0)] [(.arr 1 x1), (.arr 1 x2)] (.d (.agg v382)) [(.arr 1 x1), (.arr 1 x2)] := by
  unfold R90 at h
  refine ACall.enter hT (fn := Try.f90) Try.func90 rfl (by decide) (by simp [Try.f90]) rfl rfl rfl rfl (lb rfl) ?_
  refine AWp.seq ?_
  refine AWp.rg hT hA { arr := [4] } (by cbv) (lb rfl) ?_
  refine nT ?_
  refine AWp.seq ?_
  refine AWp.rg hT hA { arr := [5] } (by cbv) (lb rfl) ?_
  refine nT ?_
  refine AWp.seq ?_
  refine AWp.seq ?_
  obtain ⟨a3, e4, h⟩ := bindS h
  have f5 := gcI e4
  refine AWp.rg hT hA {} (by (repeat (cbv; simp only [f5])); first | done | cbv) (lb rfl) ?_
  refine nT ?_
  refine AWp.block ?_
  obtain ⟨xK33, hxK33, K33, hK33, hkK33⟩ := bindK h
  refine AWp.cutX 0 [0, 1, 4, 5] [] 4 (lb rfl) (fun τ => ∃ v32, K33 v32 = some v382 ∧ τ = { env := [(0, (.ptr 0 0)), (1, (.ptr 1 0)), (4, (.ptr 2 0)), (5, (.ptr 3 0))], heap := [(.arr 1 x1), (.arr 1 x2), (.arr 1 (A.rep (Int.ofNat 6) (.int .u8 0))), (.arr 1 v32)], n := 64 }) ?_ ?_
  · skip
    refine AWp.iter hxK33 [0, 1, 4, 5, 15, 16] [] 4 (lb rfl) (fun (v18, v19) => { env := [(0, (.ptr 0 0)), (1, (.ptr 1 0)), (4, (.ptr 2 0)), (5, (.ptr 3 0)), (15, (.d (.int .i64 a3))), (16, (.d (.int .i64 v18)))], heap := [(.arr 1 x1), (.arr 1 x2), (.arr 1 (A.rep (Int.ofNat 6) (.int .u8 0))), (.arr 1 v19)], n := 64 }) ⟨rfl, (by cbv)⟩ ?_
    rintro ⟨v18, v19⟩ eK33 hsK33
    dsimp only [R90L0] at hsK33
    refine AWp.seq ?_
    refine AWp.rg hT hA {} (by cbv) (lb rfl) ?_
    refine nT ?_
    refine AWp.seq ?_
    rcases tf (A.zlt v18 a3) with c20 | c20
    · replace hsK33 := cT c20 hsK33
      refine AWp.cdT rfl (by first | rfl | simp only [c20, Bool.not_true, Bool.not_false, cond_true, cond_false]) ?_
      refine AWp.skip ?_
      refine nT ?_
      refine AWp.seq ?_
      refine AWp.block ?_
      refine AWp.seq ?_
      refine AWp.rg hT hA {} (by (repeat (cbv; simp only [c20])); first | done | cbv) (lb rfl) ?_
      refine nT ?_
      obtain ⟨a21, e22, hsK33⟩ := bindS hsK33
      have f23 := gcI e22
      obtain ⟨_, e24, hsK33⟩ := bindS hsK33
      have f25 := nkI e24
      obtain ⟨_, e26, hsK33⟩ := bindS hsK33
      have f28 := ckI e26
      obtain ⟨_, e27, hsK33⟩ := bindS hsK33
      have f29 := ckI e27
      obtain ⟨d30, e31, hsK33⟩ := bindS hsK33
      refine AWp.rg hT hA { tk := [26] } (by (repeat (cbv; simp only [c20, f23, f25, f28, f29, e31])); first | done | cbv) (lb rfl) ?_
      refine nB ?_
      refine nT ?_
      refine AWp.rg hT hA {} (by (repeat (cbv; simp only [c20])); first | done | cbv) (lb rfl) ?_
      exact nT ⟨_, (soI hsK33).symm, rfl, (by first | (cbv; done) | ((repeat (cbv; simp only [c20])); first | done | cbv))⟩
    · replace hsK33 := cF c20 hsK33
      refine AWp.cdF rfl (by first | rfl | simp only [c20, Bool.not_true, Bool.not_false, cond_true, cond_false]) ?_
      refine AWp.exit ?_
      refine xT ?_
      refine xT ?_
      refine exL hsK33 fun hx => ?_
      subst hx
      exact oxI ⟨rfl, _, hkK33, (by first | (cbv; done) | ((repeat (cbv; simp only [c20])); first | done | cbv))⟩
  · rintro _ ⟨v32, hkK33, rfl⟩
    have h := (hK33 _ hkK33)
    refine xB ?_
    refine nT ?_
    refine AWp.seq ?_
    refine AWp.seq ?_
    refine AWp.rg hT hA {} (by cbv) (lb rfl) ?_
    refine nT ?_
    refine AWp.block ?_
    obtain ⟨xK368, hxK368, K368, hK368, hkK368⟩ := bindK h
    refine AWp.cutX 2 [4, 5] [] 4 (lb rfl) (fun τ => ∃ v367, K368 v367 = some v382 ∧ τ = { env := [(4, (.ptr 2 0)), (5, (.ptr 3 0))], heap := [(.arr 1 x1), (.arr 1 x2), (.arr 1 (A.rep (Int.ofNat 6) (.int .u8 0))), (.arr 1 v367)], n := 64 }) ?_ ?_
    · skip
      refine AWp.iter hxK368 [0, 1, 4, 5, 7] [] 4 (lb rfl) (fun (v199, v200) => { env := [(0, (.ptr 0 0)), (1, (.ptr 1 0)), (4, (.ptr 2 0)), (5, (.ptr 3 0)), (7, (.d (.bool v199)))], heap := [(.arr 1 x1), (.arr 1 x2), (.arr 1 (A.rep (Int.ofNat 6) (.int .u8 0))), (.arr 1 v200)], n := 64 }) ⟨rfl, (by cbv)⟩ ?_
      rintro ⟨v199, v200⟩ eK368 hsK368
      dsimp only [R90L3] at hsK368
      refine AWp.seq ?_
      refine AWp.seq ?_
      refine AWp.rg hT hA {} (by cbv) (lb rfl) ?_
      refine nT ?_
      rcases tf v199 with c201 | c201
      · replace hsK368 := cT c201 hsK368
        refine AWp.cdT rfl (by first | rfl | simp only [c201, Bool.not_true, Bool.not_false, cond_true, cond_false]) ?_
        refine AWp.skip ?_
        refine nT ?_
        refine AWp.block ?_
        refine AWp.seq ?_
        refine AWp.rg hT hA {} (by (repeat (cbv; simp only [c201])); first | done | cbv) (lb rfl) ?_
        refine nT ?_
        refine AWp.seq ?_
        obtain ⟨a202, e203, hsK368⟩ := bindS hsK368
        have f204 := gcI e203
        refine AWp.rg hT hA {} (by (repeat (cbv; simp only [c201, f204])); first | done | cbv) (lb rfl) ?_
        refine nT ?_
        refine AWp.block ?_
        obtain ⟨xK366, hxK366, K366, hK366, hkK366⟩ := bindK hsK368
        refine AWp.cutX 4 [0, 1, 4, 5, 7] [] 4 (lb rfl) (fun τ => ∃ v364 v365, K366 (v364, v365) = some eK368 ∧ τ = { env := [(0, (.ptr 0 0)), (1, (.ptr 1 0)), (4, (.ptr 2 0)), (5, (.ptr 3 0)), (7, (.d (.bool v364)))], heap := [(.arr 1 x1), (.arr 1 x2), (.arr 1 (A.rep (Int.ofNat 6) (.int .u8 0))), (.arr 1 v365)], n := 64 }) ?_ ?_
        · skip
          refine AWp.iter hxK366 [0, 1, 4, 5, 7, 34, 35] [] 4 (lb rfl) (fun (v283, v284, v285) => { env := [(0, (.ptr 0 0)), (1, (.ptr 1 0)), (4, (.ptr 2 0)), (5, (.ptr 3 0)), (7, (.d (.bool v283))), (34, (.d (.int .i64 a202))), (35, (.d (.int .i64 v284)))], heap := [(.arr 1 x1), (.arr 1 x2), (.arr 1 (A.rep (Int.ofNat 6) (.int .u8 0))), (.arr 1 v285)], n := 64 }) ⟨rfl, (by first | (cbv; done) | ((repeat (cbv; simp only [c201])); first | done | cbv))⟩ ?_
          rintro ⟨v283, v284, v285⟩ eK366 hsK366
          dsimp only [R90L2] at hsK366
          refine AWp.seq ?_
          refine AWp.rg hT hA {} (by cbv) (lb rfl) ?_
          refine nT ?_
          refine AWp.seq ?_
          rcases tf (A.zlt v284 a202) with c286 | c286
          · replace hsK366 := cT c286 hsK366
            refine AWp.cdT rfl (by first | rfl | simp only [c286, Bool.not_true, Bool.not_false, cond_true, cond_false]) ?_
            refine AWp.skip ?_
            refine nT ?_
            refine AWp.seq ?_
            refine AWp.block ?_
            refine AWp.seq ?_
            refine AWp.rg hT hA {} (by (repeat (cbv; simp only [c286])); first | done | cbv) (lb rfl) ?_
            refine nT ?_
            refine AWp.seq ?_
            refine AWp.region ?_
            obtain ⟨_, e287, hsK366⟩ := bindS hsK366
            have f289 := ckI e287
            obtain ⟨_, e288, hsK366⟩ := bindS hsK366
            have f290 := ckI e288
            obtain ⟨a291, e292, hsK366⟩ := bindS hsK366
            have f293 := gcI e292
            obtain ⟨r295, e294, hsK366⟩ := bindS hsK366
            refine AOps.cc hT hA {} (by (repeat (cbv; simp only [c286, f289, f290, f293])); first | done | cbv) (lb rfl) (R76w hA e294) rfl (.inr rfl) rfl rfl rfl (lb rfl) rfl rfl ?_
            refine AOps.cd hT hA {} (by (repeat (cbv; simp only [c286, f289, f290, f293])); first | done | cbv) (lb rfl) ?_
            refine nT ?_
            refine AWp.block ?_
            obtain ⟨xK363, hxK363, K363, hK363, hkK363⟩ := bindK hsK366
            refine AWp.cutX 6 [0, 1, 4, 5, 7, 34, 35] [] 4 (lb rfl) (fun τ => ∃ v361 v362, K363 (v361, v362) = some eK366 ∧ τ = { env := [(0, (.ptr 0 0)), (1, (.ptr 1 0)), (4, (.ptr 2 0)), (5, (.ptr 3 0)), (7, (.d (.bool v361))), (34, (.d (.int .i64 a202))), (35, (.d (.int .i64 v284)))], heap := [(.arr 1 x1), (.arr 1 x2), (.arr 1 (A.rep (Int.ofNat 6) (.int .u8 0))), (.arr 1 v362)], n := 64 }) ?_ ?_
            · skip
              refine AWp.iter hxK363 [0, 1, 4, 5, 7, 8, 34, 35, 41, 42, 43] [] 4 (lb rfl) (fun (v327, v328, v329) => { env := [(0, (.ptr 0 0)), (1, (.ptr 1 0)), (4, (.ptr 2 0)), (5, (.ptr 3 0)), (7, (.d (.bool v327))), (8, (.d (.int .i64 v284))), (34, (.d (.int .i64 a202))), (35, (.d (.int .i64 v284))), (41, (.own 1 r295)), (42, (.d (.int .i64 (A.len r295)))), (43, (.d (.int .i64 v328)))], heap := [(.arr 1 x1), (.arr 1 x2), (.arr 1 (A.rep (Int.ofNat 6) (.int .u8 0))), (.arr 1 v329)], n := 64 }) ⟨rfl, (by first | (cbv; done) | ((repeat (cbv; simp only [c286])); first | done | cbv))⟩ ?_
              rintro ⟨v327, v328, v329⟩ eK363 hsK363
              dsimp only [R90L1] at hsK363
              refine AWp.seq ?_
              refine AWp.rg hT hA {} (by cbv) (lb rfl) ?_
              refine nT ?_
              refine AWp.seq ?_
              rcases tf (A.zlt v328 (A.len r295)) with c330 | c330
              · replace hsK363 := cT c330 hsK363
                refine AWp.cdT rfl (by first | rfl | simp only [c330, Bool.not_true, Bool.not_false, cond_true, cond_false]) ?_
                refine AWp.skip ?_
                refine nT ?_
                refine AWp.seq ?_
                refine AWp.block ?_
                refine AWp.seq ?_
                obtain ⟨a331, e332, hsK363⟩ := bindS hsK363
                obtain ⟨f333, f334⟩ := gtI e332
                refine AWp.rg hT hA {} (by (repeat (cbv; simp only [c330, f333, f334])); first | done | cbv) (lb rfl) ?_
                refine nT ?_
                refine AWp.seq ?_
                refine AWp.region ?_
                obtain ⟨l339, e335, hsK363⟩ := bindS hsK363
                obtain ⟨f336, f337, f338⟩ := gaI e335
                obtain ⟨r341, e340, hsK363⟩ := bindS hsK363
                refine AOps.cc hT hA {} (by (repeat (cbv; simp only [c330, f336, f337, f338, f336, f337, f338])); first | done | cbv) (lb rfl) (R99w hA e340) rfl (.inr rfl) rfl rfl rfl (lb rfl) rfl rfl ?_
                refine AOps.cd hT hA {} (by (repeat (cbv; simp only [c330, f336, f337, f338, f336, f337, f338])); first | done | cbv) (lb rfl) ?_
                refine nT ?_
                obtain ⟨⟨v358, v359⟩, hvK360, hsK363⟩ := bindS hsK363
                refine AWp.cutN [0, 1, 4, 5, 7, 8, 34, 35, 41, 42, 43] [] 4 (lb rfl) (fun τ => τ = { env := [(0, (.ptr 0 0)), (1, (.ptr 1 0)), (4, (.ptr 2 0)), (5, (.ptr 3 0)), (7, (.d (.bool v358))), (8, (.d (.int .i64 v284))), (34, (.d (.int .i64 a202))), (35, (.d (.int .i64 v284))), (41, (.own 1 r295)), (42, (.d (.int .i64 (A.len r295)))), (43, (.d (.int .i64 v328)))], heap := [(.arr 1 x1), (.arr 1 x2), (.arr 1 (A.rep (Int.ofNat 6) (.int .u8 0))), (.arr 1 v359)], n := 64 }) ?_ ?_
                · skip
                  rcases tf r341 with c342 | c342
                  · replace hvK360 := cT c342 hvK360
                    refine AWp.cdF rfl (by first | rfl | simp only [c330, f336, f337, f338, c342, Bool.not_true, Bool.not_false, cond_true, cond_false]) ?_
                    refine AWp.skip ?_
                    cases soI hvK360
                    exact oNi ⟨rfl, (by first | (cbv; done) | ((repeat (cbv; simp only [c330, f336, f337, f338, c342])); first | done | cbv))⟩
                  · replace hvK360 := cF c342 hvK360
                    refine AWp.cdT rfl (by first | rfl | simp only [c330, f336, f337, f338, c342, Bool.not_true, Bool.not_false, cond_true, cond_false]) ?_
                    refine AWp.seq ?_
                    obtain ⟨_, e343, hvK360⟩ := bindS hvK360
                    have f345 := ckI e343
                    obtain ⟨_, e344, hvK360⟩ := bindS hvK360
                    have f346 := ckI e344
                    obtain ⟨a347, e348, hvK360⟩ := bindS hvK360
                    have f349 := gcI e348
                    obtain ⟨_, e350, hvK360⟩ := bindS hvK360
                    have f351 := nkI e350
                    obtain ⟨_, e352, hvK360⟩ := bindS hvK360
                    have f354 := ckI e352
                    obtain ⟨_, e353, hvK360⟩ := bindS hvK360
                    have f355 := ckI e353
                    obtain ⟨d356, e357, hvK360⟩ := bindS hvK360
                    refine AWp.rd hT hA { tk := [59] } rfl (by (repeat (cbv; simp only [c330, f336, f337, f338, c342, f345, f346, f349, f351, f354, f355, e357])); first | done | cbv) (by kernel_rfl) (lb rfl) ?_
                    refine nT ?_
                    refine AWp.rg hT hA {} (by (repeat (cbv; simp only [c330, f336, f337, f338, c342])); first | done | cbv) (lb rfl) ?_
                    cases soI hvK360
                    exact oNi ⟨rfl, (by first | (cbv; done) | ((repeat (cbv; simp only [c330, f336, f337, f338, c342])); first | done | cbv))⟩
                · rintro _ rfl
                  refine nB ?_
                  refine nT ?_
                  refine AWp.rg hT hA {} (by cbv) (lb rfl) ?_
                  exact nT ⟨_, (soI hsK363).symm, rfl, (by cbv)⟩
              · replace hsK363 := cF c330 hsK363
                refine AWp.cdF rfl (by first | rfl | simp only [c330, Bool.not_true, Bool.not_false, cond_true, cond_false]) ?_
                refine AWp.exit ?_
                refine xT ?_
                refine xT ?_
                refine exL hsK363 fun hx => ?_
                subst hx
                exact oxI ⟨rfl, _, _, hkK363, (by first | (cbv; done) | ((repeat (cbv; simp only [c330])); first | done | cbv))⟩
            · rintro _ ⟨v361, v362, hkK363, rfl⟩
              have hsK366 := (hK363 _ hkK363)
              refine xB ?_
              refine nB ?_
              refine nT ?_
              refine AWp.rg hT hA {} (by cbv) (lb rfl) ?_
              exact nT ⟨_, (soI hsK366).symm, rfl, (by cbv)⟩
          · replace hsK366 := cF c286 hsK366
            refine AWp.cdF rfl (by first | rfl | simp only [c286, Bool.not_true, Bool.not_false, cond_true, cond_false]) ?_
            refine AWp.exit ?_
            refine xT ?_
            refine xT ?_
            refine exL hsK366 fun hx => ?_
            subst hx
            exact oxI ⟨rfl, _, _, hkK366, (by first | (cbv; done) | ((repeat (cbv; simp only [c286])); first | done | cbv))⟩
        · rintro _ ⟨v364, v365, hkK366, rfl⟩
          have hsK368 := (hK366 _ hkK366)
          refine xB ?_
          refine nB ?_
          exact nT ⟨_, (soI hsK368).symm, rfl, (by cbv)⟩
      · replace hsK368 := cF c201 hsK368
        refine AWp.cdF rfl (by first | rfl | simp only [c201, Bool.not_true, Bool.not_false, cond_true, cond_false]) ?_
        refine AWp.exit ?_
        refine xT ?_
        refine xT ?_
        refine exL hsK368 fun hx => ?_
        subst hx
        exact oxI ⟨rfl, _, hkK368, (by first | (cbv; done) | ((repeat (cbv; simp only [c201])); first | done | cbv))⟩
    · rintro _ ⟨v367, hkK368, rfl⟩
      have h := (hK368 _ hkK368)
      refine xB ?_
      refine nT ?_
      refine AWp.seq ?_
      obtain ⟨l373, e369, h⟩ := bindS h
      obtain ⟨f370, f371, f372⟩ := gaI e369
      obtain ⟨_, e377, h⟩ := bindS h
      have f376 := ckI e377
      obtain ⟨_, e374, h⟩ := bindS h
      have f375 := ckI e374
      refine AWp.rg hT hA { tk := [63] } (by (repeat (cbv; simp only [f370, f371, f372, f370, f371, f372, f375, f376])); first | done | cbv) (lb rfl) ?_
      refine nT ?_
      obtain ⟨_, e378, h⟩ := bindS h
      have f380 := ckI e378
      obtain ⟨_, e379, h⟩ := bindS h
      have f381 := ckI e379
      refine AWp.ret ?_
      cases soI h
      exact ⟨(rs1 (resCk rfl rfl rfl rfl (lnN hA (by assumption)) (onN hA (by assumption)))), rfl, rfl, lb rfl, _, rfl⟩

theorem R91w {A : Ar} (hA : A = Ar.std) {x1 : Int} {x2 : Int} {v5 : Bool} (h : R91 A x1 x2 = some v5) : ACall Try.prog 91 [(.d (.int .u8 x1)), (.d (.int .i64 x2))] [] (.d (.bool v5)) [] := by
  unfold R91 at h
  refine ACall.enter hT (fn := Try.f91) Try.func91 rfl (by decide) (by simp [Try.f91]) rfl rfl rfl rfl (lb rfl) ?_
  refine AWp.seq ?_
  refine AWp.rg hT hA {} (by cbv) (lb rfl) ?_
  refine nT ?_
  refine AWp.seq ?_
  obtain ⟨_, e3, h⟩ := bindS h
  have f4 := nkI e3
  refine AWp.rg hT hA { tk := [9] } (by (repeat (cbv; simp only [f4])); first | done | cbv) (lb rfl) ?_
  refine nT ?_
  refine AWp.ret ?_
  cases soI h
  exact ⟨rfl, rfl, rfl, lb rfl, _, rfl⟩

theorem R44w {A : Ar} (hA : A = Ar.std) {x1 : Int} {x2 : List D} {x3 : Int} {x4 : List D} {v20 : Bool} {v21 : Int} (h : R44 A x1 x2 x3 x4 = some (v20, v21)) : ACall Try.prog 44 [(.d (.agg [(.int .i64 x1), (.list 3 x2)])), (.d (.agg [(.int .i64 x3), (.list 3 x4)]))] [] (.tuple [(.d (.bool v20)), (.d (.int .i64 v21))]) [] := by
  unfold R44 at h
  refine ACall.enter hT (fn := Try.f44) Try.func44 rfl (by decide) (by simp [Try.f44]) rfl rfl rfl rfl (lb rfl) ?_
  refine AWp.seq ?_
  refine AWp.rg hT hA {} (by cbv) (lb rfl) ?_
  refine nT ?_
  refine AWp.seq ?_
  refine AWp.region ?_
  obtain ⟨q9, e5, h⟩ := bindS h
  rcases q9 with ⟨r6, r7⟩ | r8 | _
  · replace h := (eL h)
    refine AOps.cc hT hA {} (by cbv) (lb rfl) (R70wa hA e5) rfl (.inl rfl) rfl rfl rfl (lb rfl) rfl rfl ?_
    refine AOps.cd hT hA {} (by cbv) (lb rfl) ?_
    refine nT ?_
    refine AWp.seq ?_
    refine AWp.region ?_
    have f10 := zeqF hA (a := 0) (b := 0) (c := true) rfl
    obtain ⟨r12, e11, h⟩ := bindS h
    refine AOps.cc hT hA {} (by (repeat (cbv; simp only [f10])); first | done | cbv) (lb rfl) (R90w hA e11) rfl (.inl rfl) rfl rfl rfl (lb rfl) rfl rfl ?_
    obtain ⟨a14, e13, h⟩ := bindS h
    have f15 := gcI e13
    obtain ⟨r17, e16, h⟩ := bindS h
    refine AOps.cc hT hA {} (by (repeat (cbv; simp only [f10, f15])); first | done | cbv) (lb rfl) (R91w hA e16) rfl (.inr rfl) rfl rfl rfl (lb rfl) rfl rfl ?_
    refine AOps.cd hT hA {} (by (repeat (cbv; simp only [f10, f15])); first | done | cbv) (lb rfl) ?_
    refine nT ?_
    refine AWp.ret ?_
    cases soI h
    exact ⟨rfl, rfl, rfl, lb rfl, _, rfl⟩
  · replace h := (eL (eR h))
    refine AOps.cc hT hA {} (by cbv) (lb rfl) (R70wb hA e5) rfl (.inl rfl) rfl rfl rfl (lb rfl) rfl rfl ?_
    refine AOps.cd hT hA {} (by cbv) (lb rfl) ?_
    refine nT ?_
    refine AWp.seq ?_
    refine AWp.region ?_
    have f18 := zeqF hA (a := 50) (b := 0) (c := false) rfl
    refine AOps.cd hT hA {} (by (repeat (cbv; simp only [f18])); first | done | cbv) (lb rfl) ?_
    refine nT ?_
    refine AWp.ret ?_
    cases soI h
    exact ⟨rfl, rfl, rfl, lb rfl, _, rfl⟩
  · replace h := (eR (eR h))
    refine AOps.cc hT hA {} (by cbv) (lb rfl) (R70wc hA e5) rfl (.inl rfl) rfl rfl rfl (lb rfl) rfl rfl ?_
    refine AOps.cd hT hA {} (by cbv) (lb rfl) ?_
    refine nT ?_
    refine AWp.seq ?_
    refine AWp.region ?_
    have f19 := zeqF hA (a := 50) (b := 0) (c := false) rfl
    refine AOps.cd hT hA {} (by (repeat (cbv; simp only [f19])); first | done | cbv) (lb rfl) ?_
    refine nT ?_
    refine AWp.ret ?_
    cases soI h
    exact ⟨rfl, rfl, rfl, lb rfl, _, rfl⟩

theorem R8w {A : Ar} (hA : A = Ar.std) {x1 : Int} {x2 : List D} {x3 : Int} {x4 : List D} {x5 : List D} {v118 : Bool} (h : R8 A x1 x2 x3 x4 x5 = some v118) : ACall Try.prog 8 [(.d (.agg [(.int .i64 x1), (.list 3 x2)])), (.d (.agg [(.int .i64 x3), (.list 3 x4)])), (.d (.list 1 x5))] [] (.d (.bool v118)) [] := by
  unfold R8 at h
  refine ACall.enter hT (fn := Try.f8) Try.func8 rfl (by decide) (by simp [Try.f8]) rfl rfl rfl rfl (lb rfl) ?_
  refine AWp.seq ?_
  refine AWp.rg hT hA {} (by cbv) (lb rfl) ?_
  refine nT ?_
  refine AWp.seq ?_
  refine AWp.seq ?_
  obtain ⟨v9, hvK10, h⟩ := bindS h
  refine AWp.cutN [2, 3, 4, 33] [] 0 (lb rfl) (fun τ => τ = { env := [(2, (.d (.list 1 x5))), (3, (.lbox [(.d (.int .i64 x1)), (.d (.list 3 x2))])), (4, (.lbox [(.d (.int .i64 x3)), (.d (.list 3 x4))])), (33, (.d (.bool v9)))], heap := [], n := 213 }) ?_ ?_
  · skip
    refine AWp.region ?_
    obtain ⟨r7, e6, hvK10⟩ := bindS hvK10
    refine AOps.cc hT hA {} (by cbv) (lb rfl) (R42w hA e6) rfl (.inl rfl) rfl rfl rfl (lb rfl) rfl rfl ?_
    rcases tf r7 with c8 | c8
    · replace hvK10 := cT c8 hvK10
      refine AOps.cd hT hA {} (by (repeat (cbv; simp only [c8])); first | done | cbv) (lb rfl) ?_
      cases soI hvK10
      exact oNi ⟨rfl, (by first | (cbv; done) | ((repeat (cbv; simp only [c8])); first | done | cbv))⟩
    · replace hvK10 := cF c8 hvK10
      refine AOps.cd hT hA {} (by (repeat (cbv; simp only [c8])); first | done | cbv) (lb rfl) ?_
      cases soI hvK10
      exact oNi ⟨rfl, (by first | (cbv; done) | ((repeat (cbv; simp only [c8])); first | done | cbv))⟩
  · rintro _ rfl
    refine nT ?_
    rcases tf v9 with c11 | c11
    · replace h := cT c11 h
      refine AWp.cdT rfl (by first | rfl | simp only [c11, Bool.not_true, Bool.not_false, cond_true, cond_false]) ?_
      refine AWp.seq ?_
      refine AWp.region ?_
      obtain ⟨r13, e12, h⟩ := bindS h
      refine AOps.cc hT hA { tk := [34] } (by (repeat (cbv; simp only [c11])); first | done | cbv) (lb rfl) (R17w hA e12) rfl (.inl rfl) rfl rfl rfl (lb rfl) rfl rfl ?_
      refine AOps.cd hT hA { tk := [34] } (by (repeat (cbv; simp only [c11])); first | done | cbv) (lb rfl) ?_
      refine nT ?_
      refine AWp.ret ?_
      refine rT ?_
      cases soI h
      exact ⟨rfl, rfl, rfl, lb rfl, _, rfl⟩
    · replace h := cF c11 h
      refine AWp.cdF rfl (by first | rfl | simp only [c11, Bool.not_true, Bool.not_false, cond_true, cond_false]) ?_
      refine AWp.skip ?_
      refine nT ?_
      refine AWp.seq ?_
      refine AWp.region ?_
      obtain ⟨⟨r15, r16⟩, e14, h⟩ := bindS h
      refine AOps.cc hT hA {} (by (repeat (cbv; simp only [c11])); first | done | cbv) (lb rfl) (R44w hA e14) rfl (.inl rfl) rfl rfl rfl (lb rfl) rfl rfl ?_
      refine AOps.cd hT hA {} (by (repeat (cbv; simp only [c11])); first | done | cbv) (lb rfl) ?_
      refine nT ?_
      refine AWp.seq ?_
      refine AWp.region ?_
      obtain ⟨⟨r18, r19⟩, e17, h⟩ := bindS h
      refine AOps.cc hT hA {} (by (repeat (cbv; simp only [c11])); first | done | cbv) (lb rfl) (R23w hA e17) rfl (.inl rfl) rfl rfl rfl (lb rfl) rfl rfl ?_
      refine AOps.cd hT hA {} (by (repeat (cbv; simp only [c11])); first | done | cbv) (lb rfl) ?_
      refine nT ?_
      refine AWp.seq ?_
      refine AWp.region ?_
      obtain ⟨⟨r21, r22⟩, e20, h⟩ := bindS h
      refine AOps.cc hT hA {} (by (repeat (cbv; simp only [c11])); first | done | cbv) (lb rfl) (R25w hA e20) rfl (.inl rfl) rfl rfl rfl (lb rfl) rfl rfl ?_
      refine AOps.cd hT hA {} (by (repeat (cbv; simp only [c11])); first | done | cbv) (lb rfl) ?_
      refine nT ?_
      refine AWp.seq ?_
      refine AWp.seq ?_
      obtain ⟨v32, hvK33, h⟩ := bindS h
      refine AWp.cutN [2, 3, 4, 9, 10, 81] [] 0 (lb rfl) (fun τ => τ = { env := [(2, (.d (.list 1 x5))), (3, (.lbox [(.d (.int .i64 x1)), (.d (.list 3 x2))])), (4, (.lbox [(.d (.int .i64 x3)), (.d (.list 3 x4))])), (9, (.d (.list 1 r18))), (10, (.d (.int .i64 r19))), (81, (.d (.bool v32)))], heap := [], n := 213 }) ?_ ?_
      · skip
        rcases tf (A.zeq r16 0) with c23 | c23
        · replace hvK33 := cT c23 hvK33
          rcases tf (A.zeq r22 0) with c24 | c24
          · replace hvK33 := cT c24 hvK33
            rcases tf (A.zeq r19 0) with c25 | c25
            · replace hvK33 := cT c25 hvK33
              rcases tf r15 with c26 | c26
              · replace hvK33 := cT c26 hvK33
                refine AWp.rg hT hA {} (by (repeat (cbv; simp only [c11, c23, c24, c25, c26])); first | done | cbv) (lb rfl) ?_
                cases soI hvK33
                exact oNi ⟨rfl, (by first | (cbv; done) | ((repeat (cbv; simp only [c11, c23, c24, c25, c26])); first | done | cbv))⟩
              · replace hvK33 := cF c26 hvK33
                rcases tf r21 with c27 | c27
                · replace hvK33 := cT c27 hvK33
                  refine AWp.rg hT hA {} (by (repeat (cbv; simp only [c11, c23, c24, c25, c26, c27])); first | done | cbv) (lb rfl) ?_
                  cases soI hvK33
                  exact oNi ⟨rfl, (by first | (cbv; done) | ((repeat (cbv; simp only [c11, c23, c24, c25, c26, c27])); first | done | cbv))⟩
                · replace hvK33 := cF c27 hvK33
                  refine AWp.rg hT hA {} (by (repeat (cbv; simp only [c11, c23, c24, c25, c26, c27])); first | done | cbv) (lb rfl) ?_
                  cases soI hvK33
                  exact oNi ⟨rfl, (by first | (cbv; done) | ((repeat (cbv; simp only [c11, c23, c24, c25, c26, c27])); first | done | cbv))⟩
            · replace hvK33 := cF c25 hvK33
              rcases tf (A.zeq r19 5) with c28 | c28
              · replace hvK33 := cT c28 hvK33
                rcases tf r15 with c29 | c29
                · replace hvK33 := cT c29 hvK33
                  rcases tf r21 with c30 | c30
                  · replace hvK33 := cT c30 hvK33
                    refine AWp.rg hT hA {} (by (repeat (cbv; simp only [c11, c23, c24, c25, c28, c29, c30])); first | done | cbv) (lb rfl) ?_
                    cases soI hvK33
                    exact oNi ⟨rfl, (by first | (cbv; done) | ((repeat (cbv; simp only [c11, c23, c24, c25, c28, c29, c30])); first | done | cbv))⟩
                  · replace hvK33 := cF c30 hvK33
                    refine AWp.rg hT hA {} (by (repeat (cbv; simp only [c11, c23, c24, c25, c28, c29, c30])); first | done | cbv) (lb rfl) ?_
                    cases soI hvK33
                    exact oNi ⟨rfl, (by first | (cbv; done) | ((repeat (cbv; simp only [c11, c23, c24, c25, c28, c29, c30])); first | done | cbv))⟩
                · replace hvK33 := cF c29 hvK33
                  rcases tf r21 with c31 | c31
                  · replace hvK33 := cT c31 hvK33
                    refine AWp.rg hT hA {} (by (repeat (cbv; simp only [c11, c23, c24, c25, c28, c29, c31])); first | done | cbv) (lb rfl) ?_
                    cases soI hvK33
                    exact oNi ⟨rfl, (by first | (cbv; done) | ((repeat (cbv; simp only [c11, c23, c24, c25, c28, c29, c31])); first | done | cbv))⟩
                  · replace hvK33 := cF c31 hvK33
                    refine AWp.rg hT hA {} (by (repeat (cbv; simp only [c11, c23, c24, c25, c28, c29, c31])); first | done | cbv) (lb rfl) ?_
                    cases soI hvK33
                    exact oNi ⟨rfl, (by first | (cbv; done) | ((repeat (cbv; simp only [c11, c23, c24, c25, c28, c29, c31])); first | done | cbv))⟩
              · replace hvK33 := cF c28 hvK33
                refine AWp.rg hT hA {} (by (repeat (cbv; simp only [c11, c23, c24, c25, c28])); first | done | cbv) (lb rfl) ?_
                cases soI hvK33
                exact oNi ⟨rfl, (by first | (cbv; done) | ((repeat (cbv; simp only [c11, c23, c24, c25, c28])); first | done | cbv))⟩
          · replace hvK33 := cF c24 hvK33
            refine AWp.rg hT hA {} (by (repeat (cbv; simp only [c11, c23, c24])); first | done | cbv) (lb rfl) ?_
            cases soI hvK33
            exact oNi ⟨rfl, (by first | (cbv; done) | ((repeat (cbv; simp only [c11, c23, c24])); first | done | cbv))⟩
        · replace hvK33 := cF c23 hvK33
          refine AWp.rg hT hA {} (by (repeat (cbv; simp only [c11, c23])); first | done | cbv) (lb rfl) ?_
          cases soI hvK33
          exact oNi ⟨rfl, (by first | (cbv; done) | ((repeat (cbv; simp only [c11, c23])); first | done | cbv))⟩
      · rintro _ rfl
        refine nT ?_
        rcases tf v32 with c34 | c34
        · replace h := cT c34 h
          refine AWp.cdT rfl (by first | rfl | simp only [c34, Bool.not_true, Bool.not_false, cond_true, cond_false]) ?_
          refine AWp.seq ?_
          refine AWp.rg hT hA {} (by (repeat (cbv; simp only [c34])); first | done | cbv) (lb rfl) ?_
          refine nT ?_
          refine AWp.ret ?_
          refine rT ?_
          cases soI h
          exact ⟨rfl, rfl, rfl, lb rfl, _, rfl⟩
        · replace h := cF c34 h
          refine AWp.cdF rfl (by first | rfl | simp only [c34, Bool.not_true, Bool.not_false, cond_true, cond_false]) ?_
          refine AWp.skip ?_
          refine nT ?_
          refine AWp.seq ?_
          refine AWp.region ?_
          obtain ⟨⟨r36, r37⟩, e35, h⟩ := bindS h
          refine AOps.cc hT hA {} (by (repeat (cbv; simp only [c34])); first | done | cbv) (lb rfl) (R18w hA e35) rfl (.inl rfl) rfl rfl rfl (lb rfl) rfl rfl ?_
          refine AOps.cd hT hA {} (by (repeat (cbv; simp only [c34])); first | done | cbv) (lb rfl) ?_
          refine nT ?_
          refine AWp.seq ?_
          refine AWp.region ?_
          obtain ⟨⟨r39, r40⟩, e38, h⟩ := bindS h
          refine AOps.cc hT hA {} (by (repeat (cbv; simp only [c34])); first | done | cbv) (lb rfl) (R18w hA e38) rfl (.inl rfl) rfl rfl rfl (lb rfl) rfl rfl ?_
          refine AOps.cd hT hA {} (by (repeat (cbv; simp only [c34])); first | done | cbv) (lb rfl) ?_
          refine nT ?_
          refine AWp.seq ?_
          refine AWp.seq ?_
          obtain ⟨⟨v44, v45, v46⟩, hvK47, h⟩ := bindS h
          refine AWp.cutN [2, 3, 4, 9, 10, 13, 14, 107] [] 0 (lb rfl) (fun τ => τ = { env := [(2, (.d (.list 1 x5))), (3, (.lbox [(.d (.int .i64 x1)), (.d (.list 3 x2))])), (4, (.lbox [(.d (.int .i64 x3)), (.d (.list 3 x4))])), (9, (.d (.list 1 r18))), (10, (.d (.int .i64 r19))), (13, (.d (.bool v44))), (14, (.d (.bool v45))), (107, (.d (.bool v46)))], heap := [], n := 213 }) ?_ ?_
          · skip
            rcases tf (A.zeq r37 r40) with c41 | c41
            · replace hvK47 := cT c41 hvK47
              rcases tf r36 with c42 | c42
              · replace hvK47 := cT c42 hvK47
                rcases tf r39 with c43 | c43
                · replace hvK47 := cT c43 hvK47
                  refine AWp.rg hT hA {} (by (repeat (cbv; simp only [c34, c41, c42, c43])); first | done | cbv) (lb rfl) ?_
                  cases soI hvK47
                  exact oNi ⟨rfl, (by first | (cbv; done) | ((repeat (cbv; simp only [c34, c41, c42, c43])); first | done | cbv))⟩
                · replace hvK47 := cF c43 hvK47
                  refine AWp.rg hT hA {} (by (repeat (cbv; simp only [c34, c41, c42, c43])); first | done | cbv) (lb rfl) ?_
                  cases soI hvK47
                  exact oNi ⟨rfl, (by first | (cbv; done) | ((repeat (cbv; simp only [c34, c41, c42, c43])); first | done | cbv))⟩
              · replace hvK47 := cF c42 hvK47
                refine AWp.rg hT hA {} (by (repeat (cbv; simp only [c34, c41, c42])); first | done | cbv) (lb rfl) ?_
                cases soI hvK47
                exact oNi ⟨rfl, (by first | (cbv; done) | ((repeat (cbv; simp only [c34, c41, c42])); first | done | cbv))⟩
            · replace hvK47 := cF c41 hvK47
              refine AWp.rg hT hA {} (by (repeat (cbv; simp only [c34, c41])); first | done | cbv) (lb rfl) ?_
              cases soI hvK47
              exact oNi ⟨rfl, (by first | (cbv; done) | ((repeat (cbv; simp only [c34, c41])); first | done | cbv))⟩
          · rintro _ rfl
            refine nT ?_
            rcases tf v46 with c48 | c48
            · replace h := cT c48 h
              refine AWp.cdT rfl (by first | rfl | simp only [c48, Bool.not_true, Bool.not_false, cond_true, cond_false]) ?_
              refine AWp.seq ?_
              refine AWp.rg hT hA {} (by (repeat (cbv; simp only [c48])); first | done | cbv) (lb rfl) ?_
              refine nT ?_
              refine AWp.ret ?_
              refine rT ?_
              cases soI h
              exact ⟨rfl, rfl, rfl, lb rfl, _, rfl⟩
            · replace h := cF c48 h
              refine AWp.cdF rfl (by first | rfl | simp only [c48, Bool.not_true, Bool.not_false, cond_true, cond_false]) ?_
              refine AWp.skip ?_
              refine nT ?_
              refine AWp.seq ?_
              refine AWp.seq ?_
              refine AWp.rg hT hA {} (by (repeat (cbv; simp only [c48])); first | done | cbv) (lb rfl) ?_
              refine nT ?_
              rcases tf (A.zeq r19 0) with c49 | c49
              · replace h := cT c49 h
                refine AWp.cdF rfl (by first | rfl | simp only [c48, c49, Bool.not_true, Bool.not_false, cond_true, cond_false]) ?_
                refine AWp.skip ?_
                refine nT ?_
                refine AWp.seq ?_
                refine AWp.seq ?_
                obtain ⟨v59, hvK60, h⟩ := bindS h
                refine AWp.cutN [3, 4, 9, 137] [] 0 (lb rfl) (fun τ => τ = { env := [(3, (.lbox [(.d (.int .i64 x1)), (.d (.list 3 x2))])), (4, (.lbox [(.d (.int .i64 x3)), (.d (.list 3 x4))])), (9, (.d (.list 1 r18))), (137, (.d (.bool v59)))], heap := [], n := 213 }) ?_ ?_
                · skip
                  rcases tf (A.zeq (A.len r18) 0) with c55 | c55
                  · replace hvK60 := cT c55 hvK60
                    refine AWp.rg hT hA {} (by (repeat (cbv; simp only [c48, c49, c55])); first | done | cbv) (lb rfl) ?_
                    cases soI hvK60
                    exact oNi ⟨rfl, (by first | (cbv; done) | ((repeat (cbv; simp only [c48, c49, c55])); first | done | cbv))⟩
                  · replace hvK60 := cF c55 hvK60
                    rcases tf (A.zlt 1000 (A.len r18)) with c56 | c56
                    · replace hvK60 := cT c56 hvK60
                      refine AWp.rg hT hA {} (by (repeat (cbv; simp only [c48, c49, c55, c56])); first | done | cbv) (lb rfl) ?_
                      cases soI hvK60
                      exact oNi ⟨rfl, (by first | (cbv; done) | ((repeat (cbv; simp only [c48, c49, c55, c56])); first | done | cbv))⟩
                    · replace hvK60 := cF c56 hvK60
                      rcases tf v44 with c57 | c57
                      · replace hvK60 := cT c57 hvK60
                        rcases tf v45 with c58 | c58
                        · replace hvK60 := cT c58 hvK60
                          refine AWp.rg hT hA {} (by (repeat (cbv; simp only [c48, c49, c55, c56, c57, c58])); first | done | cbv) (lb rfl) ?_
                          cases soI hvK60
                          exact oNi ⟨rfl, (by first | (cbv; done) | ((repeat (cbv; simp only [c48, c49, c55, c56, c57, c58])); first | done | cbv))⟩
                        · replace hvK60 := cF c58 hvK60
                          refine AWp.rg hT hA {} (by (repeat (cbv; simp only [c48, c49, c55, c56, c57, c58])); first | done | cbv) (lb rfl) ?_
                          cases soI hvK60
                          exact oNi ⟨rfl, (by first | (cbv; done) | ((repeat (cbv; simp only [c48, c49, c55, c56, c57, c58])); first | done | cbv))⟩
                      · replace hvK60 := cF c57 hvK60
                        refine AWp.rg hT hA {} (by (repeat (cbv; simp only [c48, c49, c55, c56, c57])); first | done | cbv) (lb rfl) ?_
                        cases soI hvK60
                        exact oNi ⟨rfl, (by first | (cbv; done) | ((repeat (cbv; simp only [c48, c49, c55, c56, c57])); first | done | cbv))⟩
                · rintro _ rfl
                  refine nT ?_
                  rcases tf v59 with c61 | c61
                  · replace h := cT c61 h
                    refine AWp.cdT rfl (by first | rfl | simp only [c61, Bool.not_true, Bool.not_false, cond_true, cond_false]) ?_
                    refine AWp.seq ?_
                    refine AWp.rg hT hA {} (by (repeat (cbv; simp only [c61])); first | done | cbv) (lb rfl) ?_
                    refine nT ?_
                    refine AWp.ret ?_
                    refine rT ?_
                    cases soI h
                    exact ⟨rfl, rfl, rfl, lb rfl, _, rfl⟩
                  · replace h := cF c61 h
                    refine AWp.cdF rfl (by first | rfl | simp only [c61, Bool.not_true, Bool.not_false, cond_true, cond_false]) ?_
                    refine AWp.skip ?_
                    refine nT ?_
                    refine AWp.seq ?_
                    refine AWp.region ?_
                    obtain ⟨⟨r63, r64⟩, e62, h⟩ := bindS h
                    refine AOps.cc hT hA {} (by (repeat (cbv; simp only [c61])); first | done | cbv) (lb rfl) (R18w hA e62) rfl (.inl rfl) rfl rfl rfl (lb rfl) rfl rfl ?_
                    refine AOps.cd hT hA {} (by (repeat (cbv; simp only [c61])); first | done | cbv) (lb rfl) ?_
                    refine nT ?_
                    refine AWp.seq ?_
                    refine AWp.region ?_
                    obtain ⟨⟨r66, r67⟩, e65, h⟩ := bindS h
                    refine AOps.cc hT hA {} (by (repeat (cbv; simp only [c61])); first | done | cbv) (lb rfl) (R18w hA e65) rfl (.inl rfl) rfl rfl rfl (lb rfl) rfl rfl ?_
                    refine AOps.cd hT hA {} (by (repeat (cbv; simp only [c61])); first | done | cbv) (lb rfl) ?_
                    refine nT ?_
                    refine AWp.seq ?_
                    refine AWp.regionDraw rfl (lb rfl) ?_
                    obtain ⟨l68, e69, h⟩ := bindS h
                    obtain ⟨f70, f71, f72, f73⟩ := slI e69
                    obtain ⟨⟨r75, r76⟩, e74, h⟩ := bindS h
                    refine DOps.c0 hT hA {} rfl (by (repeat (cbv; simp only [c61, f70, f71, f72, f73])); first | done | cbv) (R18w hA e74) rfl rfl (lb rfl) rfl rfl ?_
                    refine DOps.cd hT hA {} rfl (by (repeat (cbv; simp only [c61, f70, f71, f72, f73])); first | done | cbv) (by kernel_rfl) ?_
                    refine nT ?_
                    refine AWp.seq ?_
                    refine AWp.seq ?_
                    obtain ⟨v82, hvK83, h⟩ := bindS h
                    refine AWp.cutN [3, 9, 180] [] 0 (lb rfl) (fun τ => τ = { env := [(3, (.lbox [(.d (.int .i64 x1)), (.d (.list 3 x2))])), (9, (.d (.list 1 r18))), (180, (.d (.bool v82)))], heap := [], n := 213 }) ?_ ?_
                    · skip
                      rcases tf (A.zeq r64 0) with c77 | c77
                      · replace hvK83 := cT c77 hvK83
                        rcases tf (A.zeq r67 0) with c78 | c78
                        · replace hvK83 := cT c78 hvK83
                          rcases tf (A.zeq r76 0) with c79 | c79
                          · replace hvK83 := cT c79 hvK83
                            rcases tf r63 with c80 | c80
                            · replace hvK83 := cT c80 hvK83
                              rcases tf r66 with c81 | c81
                              · replace hvK83 := cT c81 hvK83
                                refine AWp.rg hT hA {} (by (repeat (cbv; simp only [c61, c77, c78, c79, c80, c81])); first | done | cbv) (lb rfl) ?_
                                cases soI hvK83
                                exact oNi ⟨rfl, (by first | (cbv; done) | ((repeat (cbv; simp only [c61, c77, c78, c79, c80, c81])); first | done | cbv))⟩
                              · replace hvK83 := cF c81 hvK83
                                refine AWp.rg hT hA {} (by (repeat (cbv; simp only [c61, c77, c78, c79, c80, c81])); first | done | cbv) (lb rfl) ?_
                                cases soI hvK83
                                exact oNi ⟨rfl, (by first | (cbv; done) | ((repeat (cbv; simp only [c61, c77, c78, c79, c80, c81])); first | done | cbv))⟩
                            · replace hvK83 := cF c80 hvK83
                              refine AWp.rg hT hA {} (by (repeat (cbv; simp only [c61, c77, c78, c79, c80])); first | done | cbv) (lb rfl) ?_
                              cases soI hvK83
                              exact oNi ⟨rfl, (by first | (cbv; done) | ((repeat (cbv; simp only [c61, c77, c78, c79, c80])); first | done | cbv))⟩
                          · replace hvK83 := cF c79 hvK83
                            refine AWp.rg hT hA {} (by (repeat (cbv; simp only [c61, c77, c78, c79])); first | done | cbv) (lb rfl) ?_
                            cases soI hvK83
                            exact oNi ⟨rfl, (by first | (cbv; done) | ((repeat (cbv; simp only [c61, c77, c78, c79])); first | done | cbv))⟩
                        · replace hvK83 := cF c78 hvK83
                          refine AWp.rg hT hA {} (by (repeat (cbv; simp only [c61, c77, c78])); first | done | cbv) (lb rfl) ?_
                          cases soI hvK83
                          exact oNi ⟨rfl, (by first | (cbv; done) | ((repeat (cbv; simp only [c61, c77, c78])); first | done | cbv))⟩
                      · replace hvK83 := cF c77 hvK83
                        refine AWp.rg hT hA {} (by (repeat (cbv; simp only [c61, c77])); first | done | cbv) (lb rfl) ?_
                        cases soI hvK83
                        exact oNi ⟨rfl, (by first | (cbv; done) | ((repeat (cbv; simp only [c61, c77])); first | done | cbv))⟩
                    · rintro _ rfl
                      refine nT ?_
                      rcases tf v82 with c84 | c84
                      · replace h := cT c84 h
                        refine AWp.cdT rfl (by first | rfl | simp only [c84, Bool.not_true, Bool.not_false, cond_true, cond_false]) ?_
                        refine AWp.seq ?_
                        refine AWp.rg hT hA {} (by (repeat (cbv; simp only [c84])); first | done | cbv) (lb rfl) ?_
                        refine nT ?_
                        refine AWp.ret ?_
                        refine rT ?_
                        cases soI h
                        exact ⟨rfl, rfl, rfl, lb rfl, _, rfl⟩
                      · replace h := cF c84 h
                        refine AWp.cdF rfl (by first | rfl | simp only [c84, Bool.not_true, Bool.not_false, cond_true, cond_false]) ?_
                        refine AWp.skip ?_
                        refine nT ?_
                        refine AWp.seq ?_
                        refine AWp.seq ?_
                        refine AWp.rg hT hA {} (by (repeat (cbv; simp only [c84])); first | done | cbv) (lb rfl) ?_
                        refine nT ?_
                        rcases tf (A.zlt 5 (A.len r18)) with c85 | c85
                        · replace h := cT c85 h
                          refine AWp.cdT rfl (by first | rfl | simp only [c84, c85, Bool.not_true, Bool.not_false, cond_true, cond_false]) ?_
                          refine AWp.seq ?_
                          refine AWp.region ?_
                          obtain ⟨r87, e86, h⟩ := bindS h
                          refine AOps.cc hT hA { tk := [184] } (by (repeat (cbv; simp only [c84, c85])); first | done | cbv) (lb rfl) (R17w hA e86) rfl (.inl rfl) rfl rfl rfl (lb rfl) rfl rfl ?_
                          refine AOps.cd hT hA { tk := [184] } (by (repeat (cbv; simp only [c84, c85])); first | done | cbv) (lb rfl) ?_
                          refine nT ?_
                          refine AWp.ret ?_
                          refine rT ?_
                          cases soI h
                          exact ⟨rfl, rfl, rfl, lb rfl, _, rfl⟩
                        · replace h := cF c85 h
                          refine AWp.cdF rfl (by first | rfl | simp only [c84, c85, Bool.not_true, Bool.not_false, cond_true, cond_false]) ?_
                          refine AWp.skip ?_
                          refine nT ?_
                          refine AWp.seq ?_
                          refine AWp.region ?_
                          obtain ⟨⟨r89, r90⟩, e88, h⟩ := bindS h
                          refine AOps.cc hT hA {} (by (repeat (cbv; simp only [c84, c85])); first | done | cbv) (lb rfl) (R20w hA e88) rfl (.inl rfl) rfl rfl rfl (lb rfl) rfl rfl ?_
                          refine AOps.cd hT hA {} (by (repeat (cbv; simp only [c84, c85])); first | done | cbv) (lb rfl) ?_
                          refine nT ?_
                          refine AWp.seq ?_
                          refine AWp.rg hT hA {} (by (repeat (cbv; simp only [c84, c85])); first | done | cbv) (lb rfl) ?_
                          refine nT ?_
                          refine AWp.seq ?_
                          refine AWp.seq ?_
                          refine AWp.rg hT hA {} (by (repeat (cbv; simp only [c84, c85])); first | done | cbv) (lb rfl) ?_
                          refine nT ?_
                          refine AWp.block ?_
                          obtain ⟨xK111, hxK111, K111, hK111, hkK111⟩ := bindK h
                          refine AWp.cutX 0 [8, 21] [] 0 (lb rfl) (fun τ => ∃ v110, K111 v110 = some v118 ∧ τ = { env := [(8, (.d (.int .i64 r90))), (21, (.d (.bool v110)))], heap := [], n := 213 }) ?_ ?_
                          · skip
                            refine AWp.iter hxK111 [8, 9, 21, 192, 193, 194] [] 0 (lb rfl) (fun (v98, v99) => { env := [(8, (.d (.int .i64 r90))), (9, (.d (.list 1 r18))), (21, (.d (.bool v98))), (192, (.d (.list 1 r89))), (193, (.d (.int .i64 (A.len r89)))), (194, (.d (.int .i64 v99)))], heap := [], n := 213 }) ⟨rfl, (by first | (cbv; done) | ((repeat (cbv; simp only [c84, c85])); first | done | cbv))⟩ ?_
                            rintro ⟨v98, v99⟩ eK111 hsK111
                            dsimp only [R8L0] at hsK111
                            refine AWp.seq ?_
                            refine AWp.rg hT hA {} (by cbv) (lb rfl) ?_
                            refine nT ?_
                            refine AWp.seq ?_
                            rcases tf (A.zlt v99 (A.len r89)) with c100 | c100
                            · replace hsK111 := cT c100 hsK111
                              refine AWp.cdT rfl (by first | rfl | simp only [c100, Bool.not_true, Bool.not_false, cond_true, cond_false]) ?_
                              refine AWp.skip ?_
                              refine nT ?_
                              refine AWp.seq ?_
                              refine AWp.block ?_
                              refine AWp.seq ?_
                              obtain ⟨a101, e102, hsK111⟩ := bindS hsK111
                              obtain ⟨f103, f104⟩ := gtI e102
                              refine AWp.rg hT hA {} (by (repeat (cbv; simp only [c100, f103, f104])); first | done | cbv) (lb rfl) ?_
                              refine nT ?_
                              obtain ⟨v108, hvK109, hsK111⟩ := bindS hsK111
                              refine AWp.cutN [8, 9, 21, 192, 193, 194] [] 0 (lb rfl) (fun τ => τ = { env := [(8, (.d (.int .i64 r90))), (9, (.d (.list 1 r18))), (21, (.d (.bool v108))), (192, (.d (.list 1 r89))), (193, (.d (.int .i64 (A.len r89)))), (194, (.d (.int .i64 v99)))], heap := [], n := 213 }) ?_ ?_
                              · skip
                                refine AWp.region ?_
                                rcases tf v98 with c105 | c105
                                · replace hvK109 := cT c105 hvK109
                                  refine AOps.cd hT hA {} (by (repeat (cbv; simp only [c100, c105])); first | done | cbv) (lb rfl) ?_
                                  cases soI hvK109
                                  exact oNi ⟨rfl, (by first | (cbv; done) | ((repeat (cbv; simp only [c100, c105])); first | done | cbv))⟩
                                · replace hvK109 := cF c105 hvK109
                                  obtain ⟨r107, e106, hvK109⟩ := bindS hvK109
                                  refine AOps.cc hT hA {} (by (repeat (cbv; simp only [c100, c105])); first | done | cbv) (lb rfl) (R27w hA e106) rfl (.inl rfl) rfl rfl rfl (lb rfl) rfl rfl ?_
                                  refine AOps.cd hT hA {} (by (repeat (cbv; simp only [c100, c105])); first | done | cbv) (lb rfl) ?_
                                  cases soI hvK109
                                  exact oNi ⟨rfl, (by first | (cbv; done) | ((repeat (cbv; simp only [c100, c105])); first | done | cbv))⟩
                              · rintro _ rfl
                                refine nB ?_
                                refine nT ?_
                                refine AWp.rg hT hA {} (by cbv) (lb rfl) ?_
                                exact nT ⟨_, (soI hsK111).symm, rfl, (by cbv)⟩
                            · replace hsK111 := cF c100 hsK111
                              refine AWp.cdF rfl (by first | rfl | simp only [c100, Bool.not_true, Bool.not_false, cond_true, cond_false]) ?_
                              refine AWp.exit ?_
                              refine xT ?_
                              refine xT ?_
                              refine exL hsK111 fun hx => ?_
                              subst hx
                              exact oxI ⟨rfl, _, hkK111, (by first | (cbv; done) | ((repeat (cbv; simp only [c100])); first | done | cbv))⟩
                          · rintro _ ⟨v110, hkK111, rfl⟩
                            have h := (hK111 _ hkK111)
                            refine xB ?_
                            refine nT ?_
                            refine AWp.seq ?_
                            obtain ⟨v116, hvK117, h⟩ := bindS h
                            refine AWp.cutN [6] [] 0 (lb rfl) (fun τ => τ = { env := [(6, (.d (.bool v116)))], heap := [], n := 213 }) ?_ ?_
                            · skip
                              refine AWp.region ?_
                              rcases tf (A.zeq r90 0) with c112 | c112
                              · replace hvK117 := cT c112 hvK117
                                rcases tf v110 with c113 | c113
                                · replace hvK117 := cT c113 hvK117
                                  obtain ⟨r115, e114, hvK117⟩ := bindS hvK117
                                  refine AOps.cc hT hA { tk := [212] } (by (repeat (cbv; simp only [c112, c113])); first | done | cbv) (lb rfl) (R17w hA e114) rfl (.inl rfl) rfl rfl rfl (lb rfl) rfl rfl ?_
                                  refine AOps.cd hT hA { tk := [212] } (by (repeat (cbv; simp only [c112, c113])); first | done | cbv) (lb rfl) ?_
                                  cases soI hvK117
                                  exact oNi ⟨rfl, (by first | (cbv; done) | ((repeat (cbv; simp only [c112, c113])); first | done | cbv))⟩
                                · replace hvK117 := cF c113 hvK117
                                  refine AOps.cd hT hA { tk := [212] } (by (repeat (cbv; simp only [c112, c113])); first | done | cbv) (lb rfl) ?_
                                  cases soI hvK117
                                  exact oNi ⟨rfl, (by first | (cbv; done) | ((repeat (cbv; simp only [c112, c113])); first | done | cbv))⟩
                              · replace hvK117 := cF c112 hvK117
                                refine AOps.cd hT hA { tk := [212] } (by (repeat (cbv; simp only [c112])); first | done | cbv) (lb rfl) ?_
                                cases soI hvK117
                                exact oNi ⟨rfl, (by first | (cbv; done) | ((repeat (cbv; simp only [c112])); first | done | cbv))⟩
                            · rintro _ rfl
                              refine nT ?_
                              refine AWp.ret ?_
                              cases soI h
                              exact ⟨rfl, rfl, rfl, lb rfl, _, rfl⟩
              · replace h := cF c49 h
                refine AWp.cdT rfl (by first | rfl | simp only [c48, c49, Bool.not_true, Bool.not_false, cond_true, cond_false]) ?_
                refine AWp.seq ?_
                obtain ⟨v53, hvK54, h⟩ := bindS h
                refine AWp.cutN [6] [] 0 (lb rfl) (fun τ => τ = { env := [(6, (.d (.bool v53)))], heap := [], n := 213 }) ?_ ?_
                · skip
                  refine AWp.region ?_
                  rcases tf (A.zeq (A.len r18) 0) with c50 | c50
                  · replace hvK54 := cT c50 hvK54
                    obtain ⟨r52, e51, hvK54⟩ := bindS hvK54
                    refine AOps.cc hT hA { tk := [115] } (by (repeat (cbv; simp only [c48, c49, c50])); first | done | cbv) (lb rfl) (R17w hA e51) rfl (.inl rfl) rfl rfl rfl (lb rfl) rfl rfl ?_
                    refine AOps.cd hT hA { tk := [115] } (by (repeat (cbv; simp only [c48, c49, c50])); first | done | cbv) (lb rfl) ?_
                    cases soI hvK54
                    exact oNi ⟨rfl, (by first | (cbv; done) | ((repeat (cbv; simp only [c48, c49, c50])); first | done | cbv))⟩
                  · replace hvK54 := cF c50 hvK54
                    refine AOps.cd hT hA { tk := [115] } (by (repeat (cbv; simp only [c48, c49, c50])); first | done | cbv) (lb rfl) ?_
                    cases soI hvK54
                    exact oNi ⟨rfl, (by first | (cbv; done) | ((repeat (cbv; simp only [c48, c49, c50])); first | done | cbv))⟩
                · rintro _ rfl
                  refine nT ?_
                  refine AWp.ret ?_
                  refine rT ?_
                  cases soI h
                  exact ⟨rfl, rfl, rfl, lb rfl, _, rfl⟩
end Go.Am
