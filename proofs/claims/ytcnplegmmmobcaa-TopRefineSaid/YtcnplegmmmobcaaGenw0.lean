/- Own text: Genw0. -/
import Derived.Test.YtcnplegmmmobcaaGenp0
import Derived.Test.YtcnplegmmmobcaaAmBits
import Derived.Test.YtcnplegmmmobcaaAmFrz
import Derived.Test.YtcnplegmmmobcaaAmFrz
import Derived.Test.YtcnplegmmmobcaaR1T
import Derived.Test.YtcnplegmmmobcaaR1B
set_option maxRecDepth 100000
set_option maxHeartbeats 2000000
set_option linter.unusedVariables false
set_option linter.unusedSimpArgs false
namespace Go.Am
open Go Go.Proofs
theorem R16w {A : Ar} (hA : A = Ar.std) {x1 : Int} {x2 : List D} {v3 : Bool} (h : R16 A x1 x2 = some v3) : ACall Try.prog 16 [(.d (.agg [(.int .i64 x1), (.list 3 x2)]))] [] (.d (.bool v3)) [] := by
  unfold R16 at h
  refine ACall.enter hT (fn := Try.f16) Try.func16 rfl (by decide) (by simp [Try.f16]) rfl rfl rfl rfl (lb rfl) ?_
  refine AWp.seq ?_
  refine AWp.rg hT hA {} (by cbv) (lb rfl) ?_
  refine nT ?_
  refine AWp.seq ?_
  refine AWp.rg hT hA { tk := [6] } (by cbv) (lb rfl) ?_
  refine nT ?_
  refine AWp.ret ?_
  cases soI h
  exact ⟨rfl, rfl, rfl, lb rfl, _, rfl⟩

theorem R65w {A : Ar} (hA : A = Ar.std) {x1 : Int} {x2 : Int} {x3 : Int} {v7 : Bool} (h : R65 A x1 x2 x3 = some v7) : ACall Try.prog 65 [(.d (.int .i64 x1)), (.d (.int .i64 x2)), (.d (.int .i64 x3))] [] (.d (.bool v7)) [] := by
  unfold R65 at h
  refine ACall.enter hT (fn := Try.f65) Try.func65 rfl (by decide) (by simp [Try.f65]) rfl rfl rfl rfl (lb rfl) ?_
  refine AWp.seq ?_
  refine AWp.rg hT hA {} (by cbv) (lb rfl) ?_
  refine nT ?_
  refine AWp.seq ?_
  obtain ⟨v5, hvK6, h⟩ := bindS h
  refine AWp.cutN [6] [] 0 (lb rfl) (fun τ => τ = { env := [(6, (.d (.bool v5)))], heap := [], n := 15 }) ?_ ?_
  · skip
    rcases tf (A.zle x1 x2) with c4 | c4
    · replace hvK6 := cT c4 hvK6
      refine AWp.rg hT hA { tk := [14] } (by (repeat (cbv; simp only [c4])); first | done | cbv) (lb rfl) ?_
      cases soI hvK6
      exact oNi ⟨rfl, (by first | (cbv; done) | ((repeat (cbv; simp only [c4])); first | done | cbv))⟩
    · replace hvK6 := cF c4 hvK6
      refine AWp.rg hT hA { tk := [14] } (by (repeat (cbv; simp only [c4])); first | done | cbv) (lb rfl) ?_
      cases soI hvK6
      exact oNi ⟨rfl, (by first | (cbv; done) | ((repeat (cbv; simp only [c4])); first | done | cbv))⟩
  · rintro _ rfl
    refine nT ?_
    refine AWp.ret ?_
    cases soI h
    exact ⟨rfl, rfl, rfl, lb rfl, _, rfl⟩

theorem R79w {A : Ar} (hA : A = Ar.std) {x1 : Int} {x2 : Int} {x3 : List D} {v6 : Bool} (h : R79 A x1 x2 x3 = some v6) : ACall Try.prog 79 [(.d (.int .i64 x1)), (.ptr 0 0)] [(.cells [(.d (.int .i64 x2)), (.d (.list 3 x3))])] (.d (.bool v6)) [(.cells [(.d (.int .i64 x2)), (.d (.list 3 x3))])] := by
  unfold R79 at h
  refine ACall.enter hT (fn := Try.f79) Try.func79 rfl (by decide) (by simp [Try.f79]) rfl rfl rfl rfl (lb rfl) ?_
  refine AWp.seq ?_
  refine AWp.rg hT hA {} (by cbv) (lb rfl) ?_
  refine nT ?_
  refine AWp.seq ?_
  refine AWp.region ?_
  obtain ⟨r5, e4, h⟩ := bindS h
  refine AOps.cc hT hA { tk := [8] } (by cbv) (lb rfl) (R65w hA e4) rfl (.inr rfl) rfl rfl rfl (lb rfl) rfl rfl ?_
  refine AOps.cd hT hA { tk := [8] } (by cbv) (lb rfl) ?_
  refine nT ?_
  refine AWp.ret ?_
  cases soI h
  exact ⟨rfl, rfl, rfl, lb rfl, _, rfl⟩

theorem R33w {A : Ar} (hA : A = Ar.std) {x1 : Int} {x2 : List D} {v59 : Bool} (h : R33 A x1 x2 = some v59) : ACall Try.prog 33 [(.d (.agg [(.int .i64 x1), (.list 3 x2)]))] [] (.d (.bool v59)) [] := by
  unfold R33 at h
  refine ACall.enter hT (fn := Try.f33) Try.func33 rfl (by decide) (by simp [Try.f33]) rfl rfl rfl rfl (lb rfl) ?_
  refine AWp.seq ?_
  refine AWp.rg hT hA { esc := [1] } (by cbv) (lb rfl) ?_
  refine nT ?_
  refine AWp.seq ?_
  refine AWp.rg hT hA {} (by cbv) (lb rfl) ?_
  refine nT ?_
  refine AWp.seq ?_
  refine AWp.rg hT hA {} (by cbv) (lb rfl) ?_
  refine nT ?_
  refine AWp.seq ?_
  refine AWp.seq ?_
  refine AWp.rg hT hA {} (by cbv) (lb rfl) ?_
  refine nT ?_
  refine AWp.block ?_
  obtain ⟨xK53, hxK53, K53, hK53, hkK53⟩ := bindK h
  refine AWp.cutX 0 [1] [] 2 (lb rfl) (fun τ => ∃ v51, K53 (.inl v51) = some v59 ∧ τ = { env := [(1, (.ptr 0 0))], heap := [(.cells [(.d (.int .i64 x1)), (.d (.list 3 x2))]), (.map true [.int .i64, .int .i64, .int .i64] v51)], n := 51 }) ?_ ?_
  · skip
    refine AWp.iter hxK53 [1, 3, 4, 10, 11, 12] [] 2 (lb rfl) (fun (v26, v27) => { env := [(1, (.ptr 0 0)), (3, (.func 79 [] [(.ptr 0 0)])), (4, (.map 1)), (10, (.d (.list 3 x2))), (11, (.d (.int .i64 (A.len x2)))), (12, (.d (.int .i64 v26)))], heap := [(.cells [(.d (.int .i64 x1)), (.d (.list 3 x2))]), (.map true [.int .i64, .int .i64, .int .i64] v27)], n := 51 }) ⟨rfl, (by cbv)⟩ ?_
    rintro ⟨v26, v27⟩ eK53 hsK53
    dsimp only [R33L0] at hsK53
    refine AWp.seq ?_
    refine AWp.rg hT hA {} (by cbv) (lb rfl) ?_
    refine nT ?_
    refine AWp.seq ?_
    rcases tf (A.zlt v26 (A.len x2)) with c28 | c28
    · replace hsK53 := cT c28 hsK53
      refine AWp.cdT rfl (by first | rfl | simp only [c28, Bool.not_true, Bool.not_false, cond_true, cond_false]) ?_
      refine AWp.skip ?_
      refine nT ?_
      refine AWp.seq ?_
      refine AWp.block ?_
      refine AWp.seq ?_
      obtain ⟨⟨a29, a30, a31⟩, e32, hsK53⟩ := bindS hsK53
      obtain ⟨f33, f34⟩ := gtI e32
      refine AWp.rg hT hA { tk := [15] } (by (repeat (cbv; simp only [c28, f33, f34])); first | done | cbv) (lb rfl) ?_
      refine nT ?_
      refine AWp.seq ?_
      refine AWp.seq ?_
      obtain ⟨v48, hvK49, hsK53⟩ := bindS hsK53
      refine AWp.cutN [1, 3, 4, 6, 10, 11, 12, 38] [] 2 (lb rfl) (fun τ => τ = { env := [(1, (.ptr 0 0)), (3, (.func 79 [] [(.ptr 0 0)])), (4, (.map 1)), (6, (.lbox [(.d (.int .i64 a29)), (.d (.int .i64 a30)), (.d (.int .i64 a31))])), (10, (.d (.list 3 x2))), (11, (.d (.int .i64 (A.len x2)))), (12, (.d (.int .i64 v26))), (38, (.d (.bool v48)))], heap := [(.cells [(.d (.int .i64 x1)), (.d (.list 3 x2))]), (.map true [.int .i64, .int .i64, .int .i64] v27)], n := 51 }) ?_ ?_
      · skip
        refine AWp.region ?_
        obtain ⟨r36, e35, hvK49⟩ := bindS hvK49
        refine AOps.cc hT hA {} (by (repeat (cbv; simp only [c28])); first | done | cbv) (lb rfl) (R79w hA e35) rfl (.inr rfl) rfl rfl rfl (lb rfl) rfl rfl ?_
        rcases tf r36 with c37 | c37
        · replace hvK49 := cT c37 hvK49
          obtain ⟨r39, e38, hvK49⟩ := bindS hvK49
          refine AOps.cc hT hA {} (by (repeat (cbv; simp only [c28, c37])); first | done | cbv) (lb rfl) (R79w hA e38) rfl (.inr rfl) rfl rfl rfl (lb rfl) rfl rfl ?_
          rcases tf r39 with c40 | c40
          · replace hvK49 := cT c40 hvK49
            obtain ⟨r42, e41, hvK49⟩ := bindS hvK49
            refine AOps.cc hT hA {} (by (repeat (cbv; simp only [c28, c37, c40])); first | done | cbv) (lb rfl) (R65w hA e41) rfl (.inr rfl) rfl rfl rfl (lb rfl) rfl rfl ?_
            rcases tf r42 with c43 | c43
            · replace hvK49 := cT c43 hvK49
              obtain ⟨o47, e45, hvK49⟩ := bindS hvK49
              rcases o47 with _ | a44
              · have f46 := lkN e45
                refine AOps.cd hT hA {} (by (repeat (cbv; simp only [c28, c37, c40, c43, f46])); first | done | cbv) (lb rfl) ?_
                cases soI hvK49
                exact oNi ⟨rfl, (by first | (cbv; done) | ((repeat (cbv; simp only [c28, c37, c40, c43])); first | done | cbv))⟩
              · have f46 := lkS e45
                refine AOps.cd hT hA {} (by (repeat (cbv; simp only [c28, c37, c40, c43, f46])); first | done | cbv) (lb rfl) ?_
                cases soI hvK49
                exact oNi ⟨rfl, (by first | (cbv; done) | ((repeat (cbv; simp only [c28, c37, c40, c43])); first | done | cbv))⟩
            · replace hvK49 := cF c43 hvK49
              refine AOps.cd hT hA {} (by (repeat (cbv; simp only [c28, c37, c40, c43])); first | done | cbv) (lb rfl) ?_
              cases soI hvK49
              exact oNi ⟨rfl, (by first | (cbv; done) | ((repeat (cbv; simp only [c28, c37, c40, c43])); first | done | cbv))⟩
          · replace hvK49 := cF c40 hvK49
            refine AOps.cd hT hA {} (by (repeat (cbv; simp only [c28, c37, c40])); first | done | cbv) (lb rfl) ?_
            cases soI hvK49
            exact oNi ⟨rfl, (by first | (cbv; done) | ((repeat (cbv; simp only [c28, c37, c40])); first | done | cbv))⟩
        · replace hvK49 := cF c37 hvK49
          refine AOps.cd hT hA {} (by (repeat (cbv; simp only [c28, c37])); first | done | cbv) (lb rfl) ?_
          cases soI hvK49
          exact oNi ⟨rfl, (by first | (cbv; done) | ((repeat (cbv; simp only [c28, c37])); first | done | cbv))⟩
      · rintro _ rfl
        refine nT ?_
        rcases tf v48 with c50 | c50
        · replace hsK53 := cT c50 hsK53
          refine AWp.cdT rfl (by first | rfl | simp only [c50, Bool.not_true, Bool.not_false, cond_true, cond_false]) ?_
          refine AWp.seq ?_
          refine AWp.rg hT hA {} (by (repeat (cbv; simp only [c50])); first | done | cbv) (lb rfl) ?_
          refine nT ?_
          refine AWp.ret ?_
          refine rT ?_
          refine rB ?_
          refine rT ?_
          refine rT ?_
          refine exL hsK53 fun hx => ?_
          subst hx
          refine oxR ?_
          replace hkK53 := (eR (hK53 _ hkK53))
          refine rB ?_
          refine rT ?_
          cases soI hkK53
          exact ⟨rfl, rfl, rfl, lb rfl, _, rfl⟩
        · replace hsK53 := cF c50 hsK53
          refine AWp.cdF rfl (by first | rfl | simp only [c50, Bool.not_true, Bool.not_false, cond_true, cond_false]) ?_
          refine AWp.skip ?_
          refine nT ?_
          refine AWp.rg hT hA {} (by (repeat (cbv; simp only [c50])); first | done | cbv) (lb rfl) ?_
          refine nB ?_
          refine nT ?_
          refine AWp.rg hT hA {} (by (repeat (cbv; simp only [c50])); first | done | cbv) (lb rfl) ?_
          exact nT ⟨_, (soI hsK53).symm, rfl, (by first | (cbv; done) | ((repeat (cbv; simp only [c50])); first | done | cbv))⟩
    · replace hsK53 := cF c28 hsK53
      refine AWp.cdF rfl (by first | rfl | simp only [c28, Bool.not_true, Bool.not_false, cond_true, cond_false]) ?_
      refine AWp.exit ?_
      refine xT ?_
      refine xT ?_
      refine exL hsK53 fun hx => ?_
      subst hx
      exact oxI ⟨rfl, _, hkK53, (by first | (cbv; done) | ((repeat (cbv; simp only [c28])); first | done | cbv))⟩
  · rintro _ ⟨v51, hkK53, rfl⟩
    have h := (eL (hK53 _ hkK53))
    refine xB ?_
    refine nT ?_
    refine AWp.seq ?_
    obtain ⟨v57, hvK58, h⟩ := bindS h
    refine AWp.cutN [2] [] 2 (lb rfl) (fun τ => τ = { env := [(2, (.d (.bool v57)))], heap := [(.cells [(.d (.int .i64 x1)), (.d (.list 3 x2))]), (.map true [.int .i64, .int .i64, .int .i64] v51)], n := 51 }) ?_ ?_
    · skip
      refine AWp.region ?_
      obtain ⟨r55, e54, hvK58⟩ := bindS hvK58
      refine AOps.cc hT hA { tk := [50] } (by cbv) (lb rfl) (R65w hA e54) rfl (.inr rfl) rfl rfl rfl (lb rfl) rfl rfl ?_
      rcases tf r55 with c56 | c56
      · replace hvK58 := cT c56 hvK58
        refine AOps.cd hT hA { tk := [50] } (by (repeat (cbv; simp only [c56])); first | done | cbv) (lb rfl) ?_
        cases soI hvK58
        exact oNi ⟨rfl, (by first | (cbv; done) | ((repeat (cbv; simp only [c56])); first | done | cbv))⟩
      · replace hvK58 := cF c56 hvK58
        refine AOps.cd hT hA { tk := [50] } (by (repeat (cbv; simp only [c56])); first | done | cbv) (lb rfl) ?_
        cases soI hvK58
        exact oNi ⟨rfl, (by first | (cbv; done) | ((repeat (cbv; simp only [c56])); first | done | cbv))⟩
    · rintro _ rfl
      refine nT ?_
      refine AWp.ret ?_
      cases soI h
      exact ⟨rfl, rfl, rfl, lb rfl, _, rfl⟩

theorem R95w {A : Ar} (hA : A = Ar.std) {x r : Int} (h : tz8 A x = some r) : ACall Try.prog 95 [.d (.int .u8 x)] [] (.d (.int .i64 r)) [] := by
  obtain ⟨h0, h1, rfl⟩ := bitI hA h
  exact ACall.ofInt rfl (fun w => Try.bits_TrailingZeros8 x w h0 h1)

theorem R76w {A : Ar} (hA : A = Ar.std) {x1 : Int} {v20 : List D} (h : R76 A x1 = some v20) : ACall Try.prog 76 [(.d (.int .u8 x1))] [] (.own 1 v20) [] := by
  unfold R76 at h
  refine ACall.enter hT (fn := Try.f76) Try.func76 rfl (by decide) (by simp [Try.f76]) rfl rfl rfl rfl (lb rfl) ?_
  refine AWp.seq ?_
  refine AWp.rg hT hA {} (by cbv) (lb rfl) ?_
  refine nT ?_
  refine AWp.seq ?_
  refine AWp.rg hT hA {} (by cbv) (lb rfl) ?_
  refine nT ?_
  refine AWp.seq ?_
  refine AWp.block ?_
  obtain ⟨xK19, hxK19, K19, hK19, hkK19⟩ := bindK h
  refine AWp.cutX 0 [3] [] 0 (lb rfl) (fun τ => ∃ v18, K19 v18 = some v20 ∧ τ = { env := [(3, (.own 1 v18))], heap := [], n := 16 }) ?_ ?_
  · skip
    refine AWp.iter hxK19 [0, 3] [] 0 (lb rfl) (fun (v9, v10) => { env := [(0, (.d (.int .u8 v9))), (3, (.own 1 v10))], heap := [], n := 16 }) ⟨rfl, (by cbv)⟩ ?_
    rintro ⟨v9, v10⟩ eK19 hsK19
    dsimp only [R76L0] at hsK19
    refine AWp.seq ?_
    refine AWp.seq ?_
    refine AWp.rg hT hA {} (by cbv) (lb rfl) ?_
    refine nT ?_
    rcases tf (A.zeq v9 0) with c11 | c11
    · replace hsK19 := cT c11 hsK19
      refine AWp.cdF rfl (by first | rfl | simp only [c11, Bool.not_true, Bool.not_false, cond_true, cond_false]) ?_
      refine AWp.exit ?_
      refine xT ?_
      refine xT ?_
      refine exL hsK19 fun hx => ?_
      subst hx
      exact oxI ⟨rfl, _, hkK19, (by first | (cbv; done) | ((repeat (cbv; simp only [c11])); first | done | cbv))⟩
    · replace hsK19 := cF c11 hsK19
      refine AWp.cdT rfl (by first | rfl | simp only [c11, Bool.not_true, Bool.not_false, cond_true, cond_false]) ?_
      refine AWp.skip ?_
      refine nT ?_
      refine AWp.seq ?_
      refine AWp.block ?_
      refine AWp.region ?_
      obtain ⟨r13, e12, hsK19⟩ := bindS hsK19
      refine AOps.cc hT hA { tk := [3, 14] } (by (repeat (cbv; simp only [c11])); first | done | cbv) (lb rfl) (R95w hA e12) rfl (.inl rfl) rfl rfl rfl (lb rfl) rfl rfl ?_
      obtain ⟨l14, e15, hsK19⟩ := bindS hsK19
      obtain ⟨f16, f17⟩ := apI e15
      refine AOps.cd hT hA { tk := [3, 14] } (by (repeat (cbv; simp only [c11, f16, f17])); first | done | cbv) (lb rfl) ?_
      refine nB ?_
      refine nT ?_
      refine AWp.rg hT hA {} (by (repeat (cbv; simp only [c11])); first | done | cbv) (lb rfl) ?_
      exact nT ⟨_, (soI hsK19).symm, rfl, (by first | (cbv; done) | ((repeat (cbv; simp only [c11])); first | done | cbv))⟩
  · rintro _ ⟨v18, hkK19, rfl⟩
    have h := (hK19 _ hkK19)
    refine xB ?_
    refine nT ?_
    refine AWp.seq ?_
    refine AWp.rg hT hA { tk := [3, 15] } (by cbv) (lb rfl) ?_
    refine nT ?_
    refine AWp.ret ?_
    cases soI h
    exact ⟨rfl, rfl, rfl, lb rfl, _, rfl⟩

theorem R68w {A : Ar} (hA : A = Ar.std) {x1 : Int} {x2 : Int} {x3 : List D} {v42 : Int} (h : R68 A x1 x2 x3 = some v42) : ACall Try.prog 68 [(.ptr 0 2), (.d (.int .i64 x1)), (.d (.int .u8 x2))] [(.arr 1 x3)] (.d (.int .u8 v42)) [(.arr 1 x3)] := by
  unfold R68 at h
  refine ACall.enter hT (fn := Try.f68) Try.func68 rfl (by decide) (by simp [Try.f68]) rfl rfl rfl rfl (lb rfl) ?_
  refine AWp.seq ?_
  refine AWp.rg hT hA {} (by cbv) (lb rfl) ?_
  refine nT ?_
  refine AWp.seq ?_
  refine AWp.rg hT hA {} (by cbv) (lb rfl) ?_
  refine nT ?_
  refine AWp.seq ?_
  refine AWp.seq ?_
  refine AWp.region ?_
  obtain ⟨r5, e4, h⟩ := bindS h
  refine AOps.cc hT hA {} (by cbv) (lb rfl) (R76w hA e4) rfl (.inr rfl) rfl rfl rfl (lb rfl) rfl rfl ?_
  refine AOps.cd hT hA {} (by cbv) (lb rfl) ?_
  refine nT ?_
  refine AWp.block ?_
  obtain ⟨xK41, hxK41, K41, hK41, hkK41⟩ := bindK h
  refine AWp.cutX 0 [7] [] 1 (lb rfl) (fun τ => ∃ v40, K41 v40 = some v42 ∧ τ = { env := [(7, (.d (.int .u8 v40)))], heap := [(.arr 1 x3)], n := 28 }) ?_ ?_
  · skip
    refine AWp.iter hxK41 [0, 1, 7, 11, 12, 13] [] 1 (lb rfl) (fun (v22, v23) => { env := [(0, (.ptr 0 2)), (1, (.d (.int .i64 x1))), (7, (.d (.int .u8 v22))), (11, (.own 1 r5)), (12, (.d (.int .i64 (A.len r5)))), (13, (.d (.int .i64 v23)))], heap := [(.arr 1 x3)], n := 28 }) ⟨rfl, (by cbv)⟩ ?_
    rintro ⟨v22, v23⟩ eK41 hsK41
    dsimp only [R68L0] at hsK41
    refine AWp.seq ?_
    refine AWp.rg hT hA {} (by cbv) (lb rfl) ?_
    refine nT ?_
    refine AWp.seq ?_
    rcases tf (A.zlt v23 (A.len r5)) with c24 | c24
    · replace hsK41 := cT c24 hsK41
      refine AWp.cdT rfl (by first | rfl | simp only [c24, Bool.not_true, Bool.not_false, cond_true, cond_false]) ?_
      refine AWp.skip ?_
      refine nT ?_
      refine AWp.seq ?_
      refine AWp.block ?_
      refine AWp.seq ?_
      obtain ⟨a25, e26, hsK41⟩ := bindS hsK41
      obtain ⟨f27, f28⟩ := gtI e26
      refine AWp.rg hT hA {} (by (repeat (cbv; simp only [c24, f27, f28])); first | done | cbv) (lb rfl) ?_
      refine nT ?_
      obtain ⟨_, e29, hsK41⟩ := bindS hsK41
      have f31 := ckI e29
      obtain ⟨_, e30, hsK41⟩ := bindS hsK41
      have f32 := ckI e30
      obtain ⟨_, e33, hsK41⟩ := bindS hsK41
      have f35 := ckI e33
      obtain ⟨_, e34, hsK41⟩ := bindS hsK41
      have f36 := ckI e34
      obtain ⟨a37, e38, hsK41⟩ := bindS hsK41
      have f39 := gcI e38
      refine AWp.rg hT hA { tk := [25] } (by (repeat (cbv; simp only [c24, f31, f32, f35, f36, f39])); first | done | cbv) (lb rfl) ?_
      refine nB ?_
      refine nT ?_
      refine AWp.rg hT hA {} (by (repeat (cbv; simp only [c24])); first | done | cbv) (lb rfl) ?_
      exact nT ⟨_, (soI hsK41).symm, rfl, (by first | (cbv; done) | ((repeat (cbv; simp only [c24])); first | done | cbv))⟩
    · replace hsK41 := cF c24 hsK41
      refine AWp.cdF rfl (by first | rfl | simp only [c24, Bool.not_true, Bool.not_false, cond_true, cond_false]) ?_
      refine AWp.exit ?_
      refine xT ?_
      refine xT ?_
      refine exL hsK41 fun hx => ?_
      subst hx
      exact oxI ⟨rfl, _, hkK41, (by first | (cbv; done) | ((repeat (cbv; simp only [c24])); first | done | cbv))⟩
  · rintro _ ⟨v40, hkK41, rfl⟩
    have h := (hK41 _ hkK41)
    refine xB ?_
    refine nT ?_
    refine AWp.seq ?_
    refine AWp.rg hT hA { tk := [7, 27] } (by cbv) (lb rfl) ?_
    refine nT ?_
    refine AWp.ret ?_
    cases soI h
    exact ⟨rfl, rfl, rfl, lb rfl, _, rfl⟩

theorem R68aw {A : Ar} (hA : A = Ar.std) {x1 : Int} {x2 : Int} {x3 : List D} {v42 : Int} (h : R68a A x1 x2 x3 = some v42) : ACall Try.prog 68 [(.ptr 0 26), (.d (.int .i64 x1)), (.d (.int .u8 x2))] [(.arr 1 x3)] (.d (.int .u8 v42)) [(.arr 1 x3)] := by
  unfold R68a at h
  refine ACall.enter hT (fn := Try.f68) Try.func68 rfl (by decide) (by simp [Try.f68]) rfl rfl rfl rfl (lb rfl) ?_
  refine AWp.seq ?_
  refine AWp.rg hT hA {} (by cbv) (lb rfl) ?_
  refine nT ?_
  refine AWp.seq ?_
  refine AWp.rg hT hA {} (by cbv) (lb rfl) ?_
  refine nT ?_
  refine AWp.seq ?_
  refine AWp.seq ?_
  refine AWp.region ?_
  obtain ⟨r5, e4, h⟩ := bindS h
  refine AOps.cc hT hA {} (by cbv) (lb rfl) (R76w hA e4) rfl (.inr rfl) rfl rfl rfl (lb rfl) rfl rfl ?_
  refine AOps.cd hT hA {} (by cbv) (lb rfl) ?_
  refine nT ?_
  refine AWp.block ?_
  obtain ⟨xK41, hxK41, K41, hK41, hkK41⟩ := bindK h
  refine AWp.cutX 0 [7] [] 1 (lb rfl) (fun τ => ∃ v40, K41 v40 = some v42 ∧ τ = { env := [(7, (.d (.int .u8 v40)))], heap := [(.arr 1 x3)], n := 28 }) ?_ ?_
  · skip
    refine AWp.iter hxK41 [0, 1, 7, 11, 12, 13] [] 1 (lb rfl) (fun (v22, v23) => { env := [(0, (.ptr 0 26)), (1, (.d (.int .i64 x1))), (7, (.d (.int .u8 v22))), (11, (.own 1 r5)), (12, (.d (.int .i64 (A.len r5)))), (13, (.d (.int .i64 v23)))], heap := [(.arr 1 x3)], n := 28 }) ⟨rfl, (by cbv)⟩ ?_
    rintro ⟨v22, v23⟩ eK41 hsK41
    dsimp only [R68aL0] at hsK41
    refine AWp.seq ?_
    refine AWp.rg hT hA {} (by cbv) (lb rfl) ?_
    refine nT ?_
    refine AWp.seq ?_
    rcases tf (A.zlt v23 (A.len r5)) with c24 | c24
    · replace hsK41 := cT c24 hsK41
      refine AWp.cdT rfl (by first | rfl | simp only [c24, Bool.not_true, Bool.not_false, cond_true, cond_false]) ?_
      refine AWp.skip ?_
      refine nT ?_
      refine AWp.seq ?_
      refine AWp.block ?_
      refine AWp.seq ?_
      obtain ⟨a25, e26, hsK41⟩ := bindS hsK41
      obtain ⟨f27, f28⟩ := gtI e26
      refine AWp.rg hT hA {} (by (repeat (cbv; simp only [c24, f27, f28])); first | done | cbv) (lb rfl) ?_
      refine nT ?_
      obtain ⟨_, e29, hsK41⟩ := bindS hsK41
      have f31 := ckI e29
      obtain ⟨_, e30, hsK41⟩ := bindS hsK41
      have f32 := ckI e30
      obtain ⟨_, e33, hsK41⟩ := bindS hsK41
      have f35 := ckI e33
      obtain ⟨_, e34, hsK41⟩ := bindS hsK41
      have f36 := ckI e34
      obtain ⟨a37, e38, hsK41⟩ := bindS hsK41
      have f39 := gcI e38
      refine AWp.rg hT hA { tk := [25] } (by (repeat (cbv; simp only [c24, f31, f32, f35, f36, f39])); first | done | cbv) (lb rfl) ?_
      refine nB ?_
      refine nT ?_
      refine AWp.rg hT hA {} (by (repeat (cbv; simp only [c24])); first | done | cbv) (lb rfl) ?_
      exact nT ⟨_, (soI hsK41).symm, rfl, (by first | (cbv; done) | ((repeat (cbv; simp only [c24])); first | done | cbv))⟩
    · replace hsK41 := cF c24 hsK41
      refine AWp.cdF rfl (by first | rfl | simp only [c24, Bool.not_true, Bool.not_false, cond_true, cond_false]) ?_
      refine AWp.exit ?_
      refine xT ?_
      refine xT ?_
      refine exL hsK41 fun hx => ?_
      subst hx
      exact oxI ⟨rfl, _, hkK41, (by first | (cbv; done) | ((repeat (cbv; simp only [c24])); first | done | cbv))⟩
  · rintro _ ⟨v40, hkK41, rfl⟩
    have h := (hK41 _ hkK41)
    refine xB ?_
    refine nT ?_
    refine AWp.seq ?_
    refine AWp.rg hT hA { tk := [7, 27] } (by cbv) (lb rfl) ?_
    refine nT ?_
    refine AWp.ret ?_
    cases soI h
    exact ⟨rfl, rfl, rfl, lb rfl, _, rfl⟩

theorem R58wa {A : Ar} (hA : A = Ar.std) {x1 : Int} {x2 : List D} {v219 : List D} (h : R58 A x1 x2 = some (.inl v219)) : ACall Try.prog 58 [(.d (.agg [(.int .i64 x1), (.list 3 x2)]))] [] (.tuple [(.ptr 0 0), (.d (.int .i64 0))]) [(.arr 1 v219)] := by
  unfold R58 at h
  refine ACall.enter hT (fn := Try.f58) Try.func58 rfl (by decide) (by simp [Try.f58]) rfl rfl rfl rfl (lb rfl) ?_
  refine AWp.seq ?_
  refine AWp.rg hT hA {} (by cbv) (lb rfl) ?_
  refine nT ?_
  refine AWp.seq ?_
  refine AWp.seq ?_
  refine AWp.region ?_
  obtain ⟨r4, e3, h⟩ := bindS h
  refine AOps.cc hT hA {} (by cbv) (lb rfl) (R33w hA e3) rfl (.inl rfl) rfl rfl rfl (lb rfl) rfl rfl ?_
  refine AOps.cd hT hA {} (by cbv) (lb rfl) ?_
  refine nT ?_
  rcases tf r4 with c5 | c5
  · replace h := cT c5 h
    refine AWp.cdF rfl (by first | rfl | simp only [c5, Bool.not_true, Bool.not_false, cond_true, cond_false]) ?_
    refine AWp.skip ?_
    refine nT ?_
    refine AWp.seq ?_
    have f6 := lnF hA (l := [(.int .i64 x1), (.list 3 x2), (.int .u8 0), (.int .u8 0), (.int .u8 0), (.int .u8 0), (.int .u8 0), (.int .u8 0), (.int .u8 0), (.int .u8 0), (.int .u8 0), (.int .u8 0), (.int .u8 0), (.int .u8 0), (.int .u8 0), (.int .u8 0), (.int .u8 0), (.int .u8 0), (.int .u8 0), (.int .u8 0), (.int .u8 0), (.int .u8 0), (.int .u8 0), (.int .u8 0), (.int .u8 0), (.int .u8 0), (.int .u8 0), (.int .u8 0), (.int .u8 0), (.int .u8 0), (.int .u8 0), (.int .u8 0), (.int .u8 0), (.int .u8 0), (.int .u8 0), (.int .u8 0), (.int .u8 0), (.int .u8 0), (.int .u8 0), (.int .u8 0), (.int .u8 0), (.int .u8 0), (.int .u8 0), (.int .u8 0), (.int .u8 0), (.int .u8 0), (.int .u8 0), (.int .u8 0), (.int .u8 0), (.int .u8 0)]) (n := 50) rfl
    refine AWp.rg hT hA { arr := [17] } (by (repeat (cbv; simp only [c5, f6])); first | done | cbv) (lb rfl) ?_
    refine nT ?_
    refine AWp.seq ?_
    refine AWp.seq ?_
    refine AWp.rg hT hA {} (by (repeat (cbv; simp only [c5])); first | done | cbv) (lb rfl) ?_
    refine nT ?_
    refine AWp.block ?_
    obtain ⟨xK70, hxK70, K70, hK70, hkK70⟩ := bindK h
    refine AWp.cutX 0 [1, 4] [] 1 (lb rfl) (fun τ => ∃ v69, K70 v69 = some (.inl v219) ∧ τ = { env := [(1, (.lbox [(.d (.int .i64 x1)), (.d (.list 3 x2))])), (4, (.ptr 0 0))], heap := [(.arr 1 v69)], n := 111 }) ?_ ?_
    · skip
      refine AWp.iter hxK70 [1, 4, 19, 20, 21] [] 1 (lb rfl) (fun (v37, v38) => { env := [(1, (.lbox [(.d (.int .i64 x1)), (.d (.list 3 x2))])), (4, (.ptr 0 0)), (19, (.d (.list 3 x2))), (20, (.d (.int .i64 (A.len x2)))), (21, (.d (.int .i64 v37)))], heap := [(.arr 1 v38)], n := 111 }) ⟨rfl, (by first | (cbv; done) | ((repeat (cbv; simp only [c5])); first | done | cbv))⟩ ?_
      rintro ⟨v37, v38⟩ eK70 hsK70
      dsimp only [R58L0] at hsK70
      refine AWp.seq ?_
      refine AWp.rg hT hA {} (by cbv) (lb rfl) ?_
      refine nT ?_
      refine AWp.seq ?_
      rcases tf (A.zlt v37 (A.len x2)) with c39 | c39
      · replace hsK70 := cT c39 hsK70
        refine AWp.cdT rfl (by first | rfl | simp only [c39, Bool.not_true, Bool.not_false, cond_true, cond_false]) ?_
        refine AWp.skip ?_
        refine nT ?_
        refine AWp.seq ?_
        refine AWp.block ?_
        refine AWp.seq ?_
        obtain ⟨⟨a40, a41, a42⟩, e43, hsK70⟩ := bindS hsK70
        obtain ⟨f44, f45⟩ := gtI e43
        refine AWp.rg hT hA { tk := [24] } (by (repeat (cbv; simp only [c39, f44, f45])); first | done | cbv) (lb rfl) ?_
        refine nT ?_
        obtain ⟨_, e46, hsK70⟩ := bindS hsK70
        have f48 := ckI e46
        obtain ⟨_, e47, hsK70⟩ := bindS hsK70
        have f49 := ckI e47
        obtain ⟨_, e50, hsK70⟩ := bindS hsK70
        have f52 := ckI e50
        obtain ⟨_, e51, hsK70⟩ := bindS hsK70
        have f53 := ckI e51
        obtain ⟨a54, e55, hsK70⟩ := bindS hsK70
        have f56 := gcI e55
        obtain ⟨_, e57, hsK70⟩ := bindS hsK70
        have f58 := nkI e57
        obtain ⟨_, e59, hsK70⟩ := bindS hsK70
        have f61 := ckI e59
        obtain ⟨_, e60, hsK70⟩ := bindS hsK70
        have f62 := ckI e60
        obtain ⟨_, e63, hsK70⟩ := bindS hsK70
        have f65 := ckI e63
        obtain ⟨_, e64, hsK70⟩ := bindS hsK70
        have f66 := ckI e64
        obtain ⟨d67, e68, hsK70⟩ := bindS hsK70
        refine AWp.rd hT hA { tk := [38] } rfl (by (repeat (cbv; simp only [c39, f48, f49, f52, f53, f56, f58, f61, f62, f65, f66, e68])); first | done | cbv) (by kernel_rfl) (lb rfl) ?_
        refine nB ?_
        refine nT ?_
        refine AWp.rg hT hA {} (by (repeat (cbv; simp only [c39])); first | done | cbv) (lb rfl) ?_
        exact nT ⟨_, (soI hsK70).symm, rfl, (by first | (cbv; done) | ((repeat (cbv; simp only [c39])); first | done | cbv))⟩
      · replace hsK70 := cF c39 hsK70
        refine AWp.cdF rfl (by first | rfl | simp only [c39, Bool.not_true, Bool.not_false, cond_true, cond_false]) ?_
        refine AWp.exit ?_
        refine xT ?_
        refine xT ?_
        refine exL hsK70 fun hx => ?_
        subst hx
        exact oxI ⟨rfl, _, hkK70, (by first | (cbv; done) | ((repeat (cbv; simp only [c39])); first | done | cbv))⟩
    · rintro _ ⟨v69, hkK70, rfl⟩
      have h := (hK70 _ hkK70)
      refine xB ?_
      refine nT ?_
      refine AWp.seq ?_
      refine AWp.seq ?_
      refine AWp.rg hT hA {} (by cbv) (lb rfl) ?_
      refine nT ?_
      refine AWp.block ?_
      obtain ⟨xK116, hxK116, K116, hK116, hkK116⟩ := bindK h
      refine AWp.cutX 2 [1, 4] [] 1 (lb rfl) (fun τ => ∃ v115, K116 v115 = some (.inl v219) ∧ τ = { env := [(1, (.lbox [(.d (.int .i64 x1)), (.d (.list 3 x2))])), (4, (.ptr 0 0))], heap := [(.arr 1 v115)], n := 111 }) ?_ ?_
      · skip
        refine AWp.iter hxK116 [1, 4, 45, 46] [] 1 (lb rfl) (fun (v92, v93) => { env := [(1, (.lbox [(.d (.int .i64 x1)), (.d (.list 3 x2))])), (4, (.ptr 0 0)), (45, (.d (.int .i64 x1))), (46, (.d (.int .i64 v92)))], heap := [(.arr 1 v93)], n := 111 }) ⟨rfl, (by cbv)⟩ ?_
        rintro ⟨v92, v93⟩ eK116 hsK116
        dsimp only [R58L2] at hsK116
        refine AWp.seq ?_
        refine AWp.rg hT hA {} (by cbv) (lb rfl) ?_
        refine nT ?_
        refine AWp.seq ?_
        rcases tf (A.zlt v92 x1) with c94 | c94
        · replace hsK116 := cT c94 hsK116
          refine AWp.cdT rfl (by first | rfl | simp only [c94, Bool.not_true, Bool.not_false, cond_true, cond_false]) ?_
          refine AWp.skip ?_
          refine nT ?_
          refine AWp.seq ?_
          refine AWp.block ?_
          refine AWp.seq ?_
          refine AWp.rg hT hA {} (by (repeat (cbv; simp only [c94])); first | done | cbv) (lb rfl) ?_
          refine nT ?_
          refine AWp.seq ?_
          obtain ⟨_, e95, hsK116⟩ := bindS hsK116
          have f96 := nkI e95
          refine AWp.rg hT hA { tk := [50] } (by (repeat (cbv; simp only [c94, f96])); first | done | cbv) (lb rfl) ?_
          refine nT ?_
          refine AWp.seq ?_
          refine AWp.seq ?_
          refine AWp.region ?_
          obtain ⟨r98, e97, hsK116⟩ := bindS hsK116
          refine AOps.cc hT hA { tk := [57] } (by (repeat (cbv; simp only [c94])); first | done | cbv) (lb rfl) (R68w hA e97) rfl (.inl rfl) rfl rfl rfl (lb rfl) rfl rfl ?_
          refine AOps.cd hT hA { tk := [57] } (by (repeat (cbv; simp only [c94])); first | done | cbv) (lb rfl) ?_
          refine nT ?_
          refine AWp.block ?_
          obtain ⟨xK108, hxK108, K108, hK108, hkK108⟩ := bindK hsK116
          refine AWp.cutX 4 [1, 4, 7, 8, 45, 46] [] 1 (lb rfl) (fun τ => ∃ v107, K108 v107 = some eK116 ∧ τ = { env := [(1, (.lbox [(.d (.int .i64 x1)), (.d (.list 3 x2))])), (4, (.ptr 0 0)), (7, (.d (.int .i64 v92))), (8, (.d (.int .u8 v107))), (45, (.d (.int .i64 x1))), (46, (.d (.int .i64 v92)))], heap := [(.arr 1 v93)], n := 111 }) ?_ ?_
          · skip
            refine AWp.iter hxK108 [1, 4, 7, 8, 9, 45, 46] [] 1 (lb rfl) (fun (v102, v103) => { env := [(1, (.lbox [(.d (.int .i64 x1)), (.d (.list 3 x2))])), (4, (.ptr 0 0)), (7, (.d (.int .i64 v92))), (8, (.d (.int .u8 v102))), (9, (.d (.int .u8 v103))), (45, (.d (.int .i64 x1))), (46, (.d (.int .i64 v92)))], heap := [(.arr 1 v93)], n := 111 }) ⟨rfl, (by first | (cbv; done) | ((repeat (cbv; simp only [c94])); first | done | cbv))⟩ ?_
            rintro ⟨v102, v103⟩ eK108 hsK108
            dsimp only [R58L1] at hsK108
            refine AWp.seq ?_
            refine AWp.seq ?_
            refine AWp.rg hT hA {} (by cbv) (lb rfl) ?_
            refine nT ?_
            rcases tf (A.zeq v103 v102) with c104 | c104
            · replace hsK108 := cT c104 hsK108
              refine AWp.cdF rfl (by first | rfl | simp only [c104, Bool.not_true, Bool.not_false, cond_true, cond_false]) ?_
              refine AWp.exit ?_
              refine xT ?_
              refine xT ?_
              refine exL hsK108 fun hx => ?_
              subst hx
              exact oxI ⟨rfl, _, hkK108, (by first | (cbv; done) | ((repeat (cbv; simp only [c104])); first | done | cbv))⟩
            · replace hsK108 := cF c104 hsK108
              refine AWp.cdT rfl (by first | rfl | simp only [c104, Bool.not_true, Bool.not_false, cond_true, cond_false]) ?_
              refine AWp.skip ?_
              refine nT ?_
              refine AWp.seq ?_
              refine AWp.block ?_
              refine AWp.rg hT hA { tk := [9, 68] } (by (repeat (cbv; simp only [c104])); first | done | cbv) (lb rfl) ?_
              refine nB ?_
              refine nT ?_
              refine AWp.region ?_
              obtain ⟨r106, e105, hsK108⟩ := bindS hsK108
              refine AOps.cc hT hA { tk := [67] } (by (repeat (cbv; simp only [c104])); first | done | cbv) (lb rfl) (R68w hA e105) rfl (.inl rfl) rfl rfl rfl (lb rfl) rfl rfl ?_
              refine AOps.cd hT hA { tk := [67] } (by (repeat (cbv; simp only [c104])); first | done | cbv) (lb rfl) ?_
              exact nT ⟨_, (soI hsK108).symm, rfl, (by first | (cbv; done) | ((repeat (cbv; simp only [c104])); first | done | cbv))⟩
          · rintro _ ⟨v107, hkK108, rfl⟩
            have hsK116 := (hK108 _ hkK108)
            refine xB ?_
            refine nT ?_
            obtain ⟨_, e109, hsK116⟩ := bindS hsK116
            have f111 := ckI e109
            obtain ⟨_, e110, hsK116⟩ := bindS hsK116
            have f112 := ckI e110
            obtain ⟨d113, e114, hsK116⟩ := bindS hsK116
            refine AWp.rg hT hA { tk := [8, 71] } (by (repeat (cbv; simp only [f111, f112, e114])); first | done | cbv) (lb rfl) ?_
            refine nB ?_
            refine nT ?_
            refine AWp.rg hT hA {} (by cbv) (lb rfl) ?_
            exact nT ⟨_, (soI hsK116).symm, rfl, (by cbv)⟩
        · replace hsK116 := cF c94 hsK116
          refine AWp.cdF rfl (by first | rfl | simp only [c94, Bool.not_true, Bool.not_false, cond_true, cond_false]) ?_
          refine AWp.exit ?_
          refine xT ?_
          refine xT ?_
          refine exL hsK116 fun hx => ?_
          subst hx
          exact oxI ⟨rfl, _, hkK116, (by first | (cbv; done) | ((repeat (cbv; simp only [c94])); first | done | cbv))⟩
      · rintro _ ⟨v115, hkK116, rfl⟩
        have h := (hK116 _ hkK116)
        refine xB ?_
        refine nT ?_
        refine AWp.seq ?_
        refine AWp.seq ?_
        refine AWp.rg hT hA {} (by cbv) (lb rfl) ?_
        refine nT ?_
        refine AWp.block ?_
        obtain ⟨xK218, hxK218, K218, hK218, hkK218⟩ := bindK h
        refine AWp.cutX 6 [4] [] 1 (lb rfl) (fun τ => ∃ v217, K218 v217 = some (.inl v219) ∧ τ = { env := [(4, (.ptr 0 0))], heap := [(.arr 1 v217)], n := 111 }) ?_ ?_
        · skip
          refine AWp.iter hxK218 [1, 4, 10] [] 1 (lb rfl) (fun (v166, v167) => { env := [(1, (.lbox [(.d (.int .i64 x1)), (.d (.list 3 x2))])), (4, (.ptr 0 0)), (10, (.d (.int .i64 v166)))], heap := [(.arr 1 v167)], n := 111 }) ⟨rfl, (by cbv)⟩ ?_
          rintro ⟨v166, v167⟩ eK218 hsK218
          dsimp only [R58L4] at hsK218
          refine AWp.seq ?_
          refine AWp.seq ?_
          refine AWp.rg hT hA {} (by cbv) (lb rfl) ?_
          refine nT ?_
          rcases tf (A.zle v166 3) with c168 | c168
          · replace hsK218 := cT c168 hsK218
            refine AWp.cdT rfl (by first | rfl | simp only [c168, Bool.not_true, Bool.not_false, cond_true, cond_false]) ?_
            refine AWp.skip ?_
            refine nT ?_
            refine AWp.seq ?_
            refine AWp.block ?_
            refine AWp.seq ?_
            refine AWp.rg hT hA {} (by (repeat (cbv; simp only [c168])); first | done | cbv) (lb rfl) ?_
            refine nT ?_
            refine AWp.block ?_
            obtain ⟨xK216, hxK216, K216, hK216, hkK216⟩ := bindK hsK218
            refine AWp.cutX 8 [1, 4, 10] [] 1 (lb rfl) (fun τ => ∃ v215, K216 v215 = some eK218 ∧ τ = { env := [(1, (.lbox [(.d (.int .i64 x1)), (.d (.list 3 x2))])), (4, (.ptr 0 0)), (10, (.d (.int .i64 v166)))], heap := [(.arr 1 v215)], n := 111 }) ?_ ?_
            · skip
              refine AWp.iter hxK216 [1, 4, 10, 82, 83] [] 1 (lb rfl) (fun (v191, v192) => { env := [(1, (.lbox [(.d (.int .i64 x1)), (.d (.list 3 x2))])), (4, (.ptr 0 0)), (10, (.d (.int .i64 v166))), (82, (.d (.int .i64 x1))), (83, (.d (.int .i64 v191)))], heap := [(.arr 1 v192)], n := 111 }) ⟨rfl, (by first | (cbv; done) | ((repeat (cbv; simp only [c168])); first | done | cbv))⟩ ?_
              rintro ⟨v191, v192⟩ eK216 hsK216
              dsimp only [R58L3] at hsK216
              refine AWp.seq ?_
              refine AWp.rg hT hA {} (by cbv) (lb rfl) ?_
              refine nT ?_
              refine AWp.seq ?_
              rcases tf (A.zlt v191 x1) with c193 | c193
              · replace hsK216 := cT c193 hsK216
                refine AWp.cdT rfl (by first | rfl | simp only [c193, Bool.not_true, Bool.not_false, cond_true, cond_false]) ?_
                refine AWp.skip ?_
                refine nT ?_
                refine AWp.seq ?_
                refine AWp.block ?_
                refine AWp.seq ?_
                refine AWp.rg hT hA {} (by (repeat (cbv; simp only [c193])); first | done | cbv) (lb rfl) ?_
                refine nT ?_
                refine AWp.regionDraw rfl (lb rfl) ?_
                obtain ⟨_, e194, hsK216⟩ := bindS hsK216
                have f196 := ckI e194
                obtain ⟨_, e195, hsK216⟩ := bindS hsK216
                have f197 := ckI e195
                obtain ⟨a198, e199, hsK216⟩ := bindS hsK216
                have f200 := gcI e199
                obtain ⟨r202, e201, hsK216⟩ := bindS hsK216
                refine DOps.cp hT hA { tk := [104] } rfl (by (repeat (cbv; simp only [c193, f196, f197, f200])); first | done | cbv) (R68w hA e201) rfl rfl rfl rfl (lb rfl) rfl rfl ?_
                obtain ⟨r204, e203, hsK216⟩ := bindS hsK216
                refine DOps.cp hT hA { tk := [104] } rfl (by (repeat (cbv; simp only [c193, f196, f197, f200])); first | done | cbv) (R68aw hA e203) rfl rfl rfl rfl (lb rfl) rfl rfl ?_
                obtain ⟨_, e205, hsK216⟩ := bindS hsK216
                have f207 := ckI e205
                obtain ⟨_, e206, hsK216⟩ := bindS hsK216
                have f208 := ckI e206
                obtain ⟨_, e209, hsK216⟩ := bindS hsK216
                have f211 := ckI e209
                obtain ⟨_, e210, hsK216⟩ := bindS hsK216
                have f212 := ckI e210
                obtain ⟨d213, e214, hsK216⟩ := bindS hsK216
                refine DOps.cd hT hA { tk := [104] } rfl (by (repeat (cbv; simp only [c193, f196, f197, f200, f207, f208, f211, f212, e214])); first | done | cbv) (by kernel_rfl) ?_
                refine nB ?_
                refine nT ?_
                refine AWp.rg hT hA {} (by (repeat (cbv; simp only [c193])); first | done | cbv) (lb rfl) ?_
                exact nT ⟨_, (soI hsK216).symm, rfl, (by first | (cbv; done) | ((repeat (cbv; simp only [c193])); first | done | cbv))⟩
              · replace hsK216 := cF c193 hsK216
                refine AWp.cdF rfl (by first | rfl | simp only [c193, Bool.not_true, Bool.not_false, cond_true, cond_false]) ?_
                refine AWp.exit ?_
                refine xT ?_
                refine xT ?_
                refine exL hsK216 fun hx => ?_
                subst hx
                exact oxI ⟨rfl, _, hkK216, (by first | (cbv; done) | ((repeat (cbv; simp only [c193])); first | done | cbv))⟩
            · rintro _ ⟨v215, hkK216, rfl⟩
              have hsK218 := (hK216 _ hkK216)
              refine xB ?_
              refine nB ?_
              refine nT ?_
              refine AWp.rg hT hA {} (by cbv) (lb rfl) ?_
              exact nT ⟨_, (soI hsK218).symm, rfl, (by cbv)⟩
          · replace hsK218 := cF c168 hsK218
            refine AWp.cdF rfl (by first | rfl | simp only [c168, Bool.not_true, Bool.not_false, cond_true, cond_false]) ?_
            refine AWp.exit ?_
            refine xT ?_
            refine xT ?_
            refine exL hsK218 fun hx => ?_
            subst hx
            exact oxI ⟨rfl, _, hkK218, (by first | (cbv; done) | ((repeat (cbv; simp only [c168])); first | done | cbv))⟩
        · rintro _ ⟨v217, hkK218, rfl⟩
          have h := (hK218 _ hkK218)
          refine xB ?_
          refine nT ?_
          refine AWp.seq ?_
          refine AWp.rg hT hA {} (by cbv) (lb rfl) ?_
          refine nT ?_
          refine AWp.ret ?_
          cases soI h
          exact ⟨rfl, rfl, rfl, lb rfl, _, rfl⟩
  · replace h := cF c5 h
    refine AWp.cdT rfl (by first | rfl | simp only [c5, Bool.not_true, Bool.not_false, cond_true, cond_false]) ?_
    refine AWp.seq ?_
    refine AWp.rg hT hA {} (by (repeat (cbv; simp only [c5])); first | done | cbv) (lb rfl) ?_
    refine nT ?_
    refine AWp.ret ?_
    refine rT ?_
    cases soI h

theorem R58wb {A : Ar} (hA : A = Ar.std) {x1 : Int} {x2 : List D} (h : R58 A x1 x2 = some (.inr ())) : ACall Try.prog 58 [(.d (.agg [(.int .i64 x1), (.list 3 x2)]))] [] (.tuple [.nilptr, (.d (.int .i64 50))]) [] := by
  unfold R58 at h
  refine ACall.enter hT (fn := Try.f58) Try.func58 rfl (by decide) (by simp [Try.f58]) rfl rfl rfl rfl (lb rfl) ?_
  refine AWp.seq ?_
  refine AWp.rg hT hA {} (by cbv) (lb rfl) ?_
  refine nT ?_
  refine AWp.seq ?_
  refine AWp.seq ?_
  refine AWp.region ?_
  obtain ⟨r4, e3, h⟩ := bindS h
  refine AOps.cc hT hA {} (by cbv) (lb rfl) (R33w hA e3) rfl (.inl rfl) rfl rfl rfl (lb rfl) rfl rfl ?_
  refine AOps.cd hT hA {} (by cbv) (lb rfl) ?_
  refine nT ?_
  rcases tf r4 with c5 | c5
  · replace h := cT c5 h
    refine AWp.cdF rfl (by first | rfl | simp only [c5, Bool.not_true, Bool.not_false, cond_true, cond_false]) ?_
    refine AWp.skip ?_
    refine nT ?_
    refine AWp.seq ?_
    have f6 := lnF hA (l := [(.int .i64 x1), (.list 3 x2), (.int .u8 0), (.int .u8 0), (.int .u8 0), (.int .u8 0), (.int .u8 0), (.int .u8 0), (.int .u8 0), (.int .u8 0), (.int .u8 0), (.int .u8 0), (.int .u8 0), (.int .u8 0), (.int .u8 0), (.int .u8 0), (.int .u8 0), (.int .u8 0), (.int .u8 0), (.int .u8 0), (.int .u8 0), (.int .u8 0), (.int .u8 0), (.int .u8 0), (.int .u8 0), (.int .u8 0), (.int .u8 0), (.int .u8 0), (.int .u8 0), (.int .u8 0), (.int .u8 0), (.int .u8 0), (.int .u8 0), (.int .u8 0), (.int .u8 0), (.int .u8 0), (.int .u8 0), (.int .u8 0), (.int .u8 0), (.int .u8 0), (.int .u8 0), (.int .u8 0), (.int .u8 0), (.int .u8 0), (.int .u8 0), (.int .u8 0), (.int .u8 0), (.int .u8 0), (.int .u8 0), (.int .u8 0)]) (n := 50) rfl
    refine AWp.rg hT hA { arr := [17] } (by (repeat (cbv; simp only [c5, f6])); first | done | cbv) (lb rfl) ?_
    refine nT ?_
    refine AWp.seq ?_
    refine AWp.seq ?_
    refine AWp.rg hT hA {} (by (repeat (cbv; simp only [c5])); first | done | cbv) (lb rfl) ?_
    refine nT ?_
    refine AWp.block ?_
    obtain ⟨xK70, hxK70, K70, hK70, hkK70⟩ := bindK h
    refine AWp.cutX 0 [1, 4] [] 1 (lb rfl) (fun τ => ∃ v69, K70 v69 = some (.inr ()) ∧ τ = { env := [(1, (.lbox [(.d (.int .i64 x1)), (.d (.list 3 x2))])), (4, (.ptr 0 0))], heap := [(.arr 1 v69)], n := 111 }) ?_ ?_
    · skip
      refine AWp.iter hxK70 [1, 4, 19, 20, 21] [] 1 (lb rfl) (fun (v37, v38) => { env := [(1, (.lbox [(.d (.int .i64 x1)), (.d (.list 3 x2))])), (4, (.ptr 0 0)), (19, (.d (.list 3 x2))), (20, (.d (.int .i64 (A.len x2)))), (21, (.d (.int .i64 v37)))], heap := [(.arr 1 v38)], n := 111 }) ⟨rfl, (by first | (cbv; done) | ((repeat (cbv; simp only [c5])); first | done | cbv))⟩ ?_
      rintro ⟨v37, v38⟩ eK70 hsK70
      dsimp only [R58L0] at hsK70
      refine AWp.seq ?_
      refine AWp.rg hT hA {} (by cbv) (lb rfl) ?_
      refine nT ?_
      refine AWp.seq ?_
      rcases tf (A.zlt v37 (A.len x2)) with c39 | c39
      · replace hsK70 := cT c39 hsK70
        refine AWp.cdT rfl (by first | rfl | simp only [c39, Bool.not_true, Bool.not_false, cond_true, cond_false]) ?_
        refine AWp.skip ?_
        refine nT ?_
        refine AWp.seq ?_
        refine AWp.block ?_
        refine AWp.seq ?_
        obtain ⟨⟨a40, a41, a42⟩, e43, hsK70⟩ := bindS hsK70
        obtain ⟨f44, f45⟩ := gtI e43
        refine AWp.rg hT hA { tk := [24] } (by (repeat (cbv; simp only [c39, f44, f45])); first | done | cbv) (lb rfl) ?_
        refine nT ?_
        obtain ⟨_, e46, hsK70⟩ := bindS hsK70
        have f48 := ckI e46
        obtain ⟨_, e47, hsK70⟩ := bindS hsK70
        have f49 := ckI e47
        obtain ⟨_, e50, hsK70⟩ := bindS hsK70
        have f52 := ckI e50
        obtain ⟨_, e51, hsK70⟩ := bindS hsK70
        have f53 := ckI e51
        obtain ⟨a54, e55, hsK70⟩ := bindS hsK70
        have f56 := gcI e55
        obtain ⟨_, e57, hsK70⟩ := bindS hsK70
        have f58 := nkI e57
        obtain ⟨_, e59, hsK70⟩ := bindS hsK70
        have f61 := ckI e59
        obtain ⟨_, e60, hsK70⟩ := bindS hsK70
        have f62 := ckI e60
        obtain ⟨_, e63, hsK70⟩ := bindS hsK70
        have f65 := ckI e63
        obtain ⟨_, e64, hsK70⟩ := bindS hsK70
        have f66 := ckI e64
        obtain ⟨d67, e68, hsK70⟩ := bindS hsK70
        refine AWp.rd hT hA { tk := [38] } rfl (by (repeat (cbv; simp only [c39, f48, f49, f52, f53, f56, f58, f61, f62, f65, f66, e68])); first | done | cbv) (by kernel_rfl) (lb rfl) ?_
        refine nB ?_
        refine nT ?_
        refine AWp.rg hT hA {} (by (repeat (cbv; simp only [c39])); first | done | cbv) (lb rfl) ?_
        exact nT ⟨_, (soI hsK70).symm, rfl, (by first | (cbv; done) | ((repeat (cbv; simp only [c39])); first | done | cbv))⟩
      · replace hsK70 := cF c39 hsK70
        refine AWp.cdF rfl (by first | rfl | simp only [c39, Bool.not_true, Bool.not_false, cond_true, cond_false]) ?_
        refine AWp.exit ?_
        refine xT ?_
        refine xT ?_
        refine exL hsK70 fun hx => ?_
        subst hx
        exact oxI ⟨rfl, _, hkK70, (by first | (cbv; done) | ((repeat (cbv; simp only [c39])); first | done | cbv))⟩
    · rintro _ ⟨v69, hkK70, rfl⟩
      have h := (hK70 _ hkK70)
      refine xB ?_
      refine nT ?_
      refine AWp.seq ?_
      refine AWp.seq ?_
      refine AWp.rg hT hA {} (by cbv) (lb rfl) ?_
      refine nT ?_
      refine AWp.block ?_
      obtain ⟨xK116, hxK116, K116, hK116, hkK116⟩ := bindK h
      refine AWp.cutX 2 [1, 4] [] 1 (lb rfl) (fun τ => ∃ v115, K116 v115 = some (.inr ()) ∧ τ = { env := [(1, (.lbox [(.d (.int .i64 x1)), (.d (.list 3 x2))])), (4, (.ptr 0 0))], heap := [(.arr 1 v115)], n := 111 }) ?_ ?_
      · skip
        refine AWp.iter hxK116 [1, 4, 45, 46] [] 1 (lb rfl) (fun (v92, v93) => { env := [(1, (.lbox [(.d (.int .i64 x1)), (.d (.list 3 x2))])), (4, (.ptr 0 0)), (45, (.d (.int .i64 x1))), (46, (.d (.int .i64 v92)))], heap := [(.arr 1 v93)], n := 111 }) ⟨rfl, (by cbv)⟩ ?_
        rintro ⟨v92, v93⟩ eK116 hsK116
        dsimp only [R58L2] at hsK116
        refine AWp.seq ?_
        refine AWp.rg hT hA {} (by cbv) (lb rfl) ?_
        refine nT ?_
        refine AWp.seq ?_
        rcases tf (A.zlt v92 x1) with c94 | c94
        · replace hsK116 := cT c94 hsK116
          refine AWp.cdT rfl (by first | rfl | simp only [c94, Bool.not_true, Bool.not_false, cond_true, cond_false]) ?_
          refine AWp.skip ?_
          refine nT ?_
          refine AWp.seq ?_
          refine AWp.block ?_
          refine AWp.seq ?_
          refine AWp.rg hT hA {} (by (repeat (cbv; simp only [c94])); first | done | cbv) (lb rfl) ?_
          refine nT ?_
          refine AWp.seq ?_
          obtain ⟨_, e95, hsK116⟩ := bindS hsK116
          have f96 := nkI e95
          refine AWp.rg hT hA { tk := [50] } (by (repeat (cbv; simp only [c94, f96])); first | done | cbv) (lb rfl) ?_
          refine nT ?_
          refine AWp.seq ?_
          refine AWp.seq ?_
          refine AWp.region ?_
          obtain ⟨r98, e97, hsK116⟩ := bindS hsK116
          refine AOps.cc hT hA { tk := [57] } (by (repeat (cbv; simp only [c94])); first | done | cbv) (lb rfl) (R68w hA e97) rfl (.inl rfl) rfl rfl rfl (lb rfl) rfl rfl ?_
          refine AOps.cd hT hA { tk := [57] } (by (repeat (cbv; simp only [c94])); first | done | cbv) (lb rfl) ?_
          refine nT ?_
          refine AWp.block ?_
          obtain ⟨xK108, hxK108, K108, hK108, hkK108⟩ := bindK hsK116
          refine AWp.cutX 4 [1, 4, 7, 8, 45, 46] [] 1 (lb rfl) (fun τ => ∃ v107, K108 v107 = some eK116 ∧ τ = { env := [(1, (.lbox [(.d (.int .i64 x1)), (.d (.list 3 x2))])), (4, (.ptr 0 0)), (7, (.d (.int .i64 v92))), (8, (.d (.int .u8 v107))), (45, (.d (.int .i64 x1))), (46, (.d (.int .i64 v92)))], heap := [(.arr 1 v93)], n := 111 }) ?_ ?_
          · skip
            refine AWp.iter hxK108 [1, 4, 7, 8, 9, 45, 46] [] 1 (lb rfl) (fun (v102, v103) => { env := [(1, (.lbox [(.d (.int .i64 x1)), (.d (.list 3 x2))])), (4, (.ptr 0 0)), (7, (.d (.int .i64 v92))), (8, (.d (.int .u8 v102))), (9, (.d (.int .u8 v103))), (45, (.d (.int .i64 x1))), (46, (.d (.int .i64 v92)))], heap := [(.arr 1 v93)], n := 111 }) ⟨rfl, (by first | (cbv; done) | ((repeat (cbv; simp only [c94])); first | done | cbv))⟩ ?_
            rintro ⟨v102, v103⟩ eK108 hsK108
            dsimp only [R58L1] at hsK108
            refine AWp.seq ?_
            refine AWp.seq ?_
            refine AWp.rg hT hA {} (by cbv) (lb rfl) ?_
            refine nT ?_
            rcases tf (A.zeq v103 v102) with c104 | c104
            · replace hsK108 := cT c104 hsK108
              refine AWp.cdF rfl (by first | rfl | simp only [c104, Bool.not_true, Bool.not_false, cond_true, cond_false]) ?_
              refine AWp.exit ?_
              refine xT ?_
              refine xT ?_
              refine exL hsK108 fun hx => ?_
              subst hx
              exact oxI ⟨rfl, _, hkK108, (by first | (cbv; done) | ((repeat (cbv; simp only [c104])); first | done | cbv))⟩
            · replace hsK108 := cF c104 hsK108
              refine AWp.cdT rfl (by first | rfl | simp only [c104, Bool.not_true, Bool.not_false, cond_true, cond_false]) ?_
              refine AWp.skip ?_
              refine nT ?_
              refine AWp.seq ?_
              refine AWp.block ?_
              refine AWp.rg hT hA { tk := [9, 68] } (by (repeat (cbv; simp only [c104])); first | done | cbv) (lb rfl) ?_
              refine nB ?_
              refine nT ?_
              refine AWp.region ?_
              obtain ⟨r106, e105, hsK108⟩ := bindS hsK108
              refine AOps.cc hT hA { tk := [67] } (by (repeat (cbv; simp only [c104])); first | done | cbv) (lb rfl) (R68w hA e105) rfl (.inl rfl) rfl rfl rfl (lb rfl) rfl rfl ?_
              refine AOps.cd hT hA { tk := [67] } (by (repeat (cbv; simp only [c104])); first | done | cbv) (lb rfl) ?_
              exact nT ⟨_, (soI hsK108).symm, rfl, (by first | (cbv; done) | ((repeat (cbv; simp only [c104])); first | done | cbv))⟩
          · rintro _ ⟨v107, hkK108, rfl⟩
            have hsK116 := (hK108 _ hkK108)
            refine xB ?_
            refine nT ?_
            obtain ⟨_, e109, hsK116⟩ := bindS hsK116
            have f111 := ckI e109
            obtain ⟨_, e110, hsK116⟩ := bindS hsK116
            have f112 := ckI e110
            obtain ⟨d113, e114, hsK116⟩ := bindS hsK116
            refine AWp.rg hT hA { tk := [8, 71] } (by (repeat (cbv; simp only [f111, f112, e114])); first | done | cbv) (lb rfl) ?_
            refine nB ?_
            refine nT ?_
            refine AWp.rg hT hA {} (by cbv) (lb rfl) ?_
            exact nT ⟨_, (soI hsK116).symm, rfl, (by cbv)⟩
        · replace hsK116 := cF c94 hsK116
          refine AWp.cdF rfl (by first | rfl | simp only [c94, Bool.not_true, Bool.not_false, cond_true, cond_false]) ?_
          refine AWp.exit ?_
          refine xT ?_
          refine xT ?_
          refine exL hsK116 fun hx => ?_
          subst hx
          exact oxI ⟨rfl, _, hkK116, (by first | (cbv; done) | ((repeat (cbv; simp only [c94])); first | done | cbv))⟩
      · rintro _ ⟨v115, hkK116, rfl⟩
        have h := (hK116 _ hkK116)
        refine xB ?_
        refine nT ?_
        refine AWp.seq ?_
        refine AWp.seq ?_
        refine AWp.rg hT hA {} (by cbv) (lb rfl) ?_
        refine nT ?_
        refine AWp.block ?_
        obtain ⟨xK218, hxK218, K218, hK218, hkK218⟩ := bindK h
        refine AWp.cutX 6 [4] [] 1 (lb rfl) (fun τ => ∃ v217, K218 v217 = some (.inr ()) ∧ τ = { env := [(4, (.ptr 0 0))], heap := [(.arr 1 v217)], n := 111 }) ?_ ?_
        · skip
          refine AWp.iter hxK218 [1, 4, 10] [] 1 (lb rfl) (fun (v166, v167) => { env := [(1, (.lbox [(.d (.int .i64 x1)), (.d (.list 3 x2))])), (4, (.ptr 0 0)), (10, (.d (.int .i64 v166)))], heap := [(.arr 1 v167)], n := 111 }) ⟨rfl, (by cbv)⟩ ?_
          rintro ⟨v166, v167⟩ eK218 hsK218
          dsimp only [R58L4] at hsK218
          refine AWp.seq ?_
          refine AWp.seq ?_
          refine AWp.rg hT hA {} (by cbv) (lb rfl) ?_
          refine nT ?_
          rcases tf (A.zle v166 3) with c168 | c168
          · replace hsK218 := cT c168 hsK218
            refine AWp.cdT rfl (by first | rfl | simp only [c168, Bool.not_true, Bool.not_false, cond_true, cond_false]) ?_
            refine AWp.skip ?_
            refine nT ?_
            refine AWp.seq ?_
            refine AWp.block ?_
            refine AWp.seq ?_
            refine AWp.rg hT hA {} (by (repeat (cbv; simp only [c168])); first | done | cbv) (lb rfl) ?_
            refine nT ?_
            refine AWp.block ?_
            obtain ⟨xK216, hxK216, K216, hK216, hkK216⟩ := bindK hsK218
            refine AWp.cutX 8 [1, 4, 10] [] 1 (lb rfl) (fun τ => ∃ v215, K216 v215 = some eK218 ∧ τ = { env := [(1, (.lbox [(.d (.int .i64 x1)), (.d (.list 3 x2))])), (4, (.ptr 0 0)), (10, (.d (.int .i64 v166)))], heap := [(.arr 1 v215)], n := 111 }) ?_ ?_
            · skip
              refine AWp.iter hxK216 [1, 4, 10, 82, 83] [] 1 (lb rfl) (fun (v191, v192) => { env := [(1, (.lbox [(.d (.int .i64 x1)), (.d (.list 3 x2))])), (4, (.ptr 0 0)), (10, (.d (.int .i64 v166))), (82, (.d (.int .i64 x1))), (83, (.d (.int .i64 v191)))], heap := [(.arr 1 v192)], n := 111 }) ⟨rfl, (by first | (cbv; done) | ((repeat (cbv; simp only [c168])); first | done | cbv))⟩ ?_
              rintro ⟨v191, v192⟩ eK216 hsK216
              dsimp only [R58L3] at hsK216
              refine AWp.seq ?_
              refine AWp.rg hT hA {} (by cbv) (lb rfl) ?_
              refine nT ?_
              refine AWp.seq ?_
              rcases tf (A.zlt v191 x1) with c193 | c193
              · replace hsK216 := cT c193 hsK216
                refine AWp.cdT rfl (by first | rfl | simp only [c193, Bool.not_true, Bool.not_false, cond_true, cond_false]) ?_
                refine AWp.skip ?_
                refine nT ?_
                refine AWp.seq ?_
                refine AWp.block ?_
                refine AWp.seq ?_
                refine AWp.rg hT hA {} (by (repeat (cbv; simp only [c193])); first | done | cbv) (lb rfl) ?_
                refine nT ?_
                refine AWp.regionDraw rfl (lb rfl) ?_
                obtain ⟨_, e194, hsK216⟩ := bindS hsK216
                have f196 := ckI e194
                obtain ⟨_, e195, hsK216⟩ := bindS hsK216
                have f197 := ckI e195
                obtain ⟨a198, e199, hsK216⟩ := bindS hsK216
                have f200 := gcI e199
                obtain ⟨r202, e201, hsK216⟩ := bindS hsK216
                refine DOps.cp hT hA { tk := [104] } rfl (by (repeat (cbv; simp only [c193, f196, f197, f200])); first | done | cbv) (R68w hA e201) rfl rfl rfl rfl (lb rfl) rfl rfl ?_
                obtain ⟨r204, e203, hsK216⟩ := bindS hsK216
                refine DOps.cp hT hA { tk := [104] } rfl (by (repeat (cbv; simp only [c193, f196, f197, f200])); first | done | cbv) (R68aw hA e203) rfl rfl rfl rfl (lb rfl) rfl rfl ?_
                obtain ⟨_, e205, hsK216⟩ := bindS hsK216
                have f207 := ckI e205
                obtain ⟨_, e206, hsK216⟩ := bindS hsK216
                have f208 := ckI e206
                obtain ⟨_, e209, hsK216⟩ := bindS hsK216
                have f211 := ckI e209
                obtain ⟨_, e210, hsK216⟩ := bindS hsK216
                have f212 := ckI e210
                obtain ⟨d213, e214, hsK216⟩ := bindS hsK216
                refine DOps.cd hT hA { tk := [104] } rfl (by (repeat (cbv; simp only [c193, f196, f197, f200, f207, f208, f211, f212, e214])); first | done | cbv) (by kernel_rfl) ?_
                refine nB ?_
                refine nT ?_
                refine AWp.rg hT hA {} (by (repeat (cbv; simp only [c193])); first | done | cbv) (lb rfl) ?_
                exact nT ⟨_, (soI hsK216).symm, rfl, (by first | (cbv; done) | ((repeat (cbv; simp only [c193])); first | done | cbv))⟩
              · replace hsK216 := cF c193 hsK216
                refine AWp.cdF rfl (by first | rfl | simp only [c193, Bool.not_true, Bool.not_false, cond_true, cond_false]) ?_
                refine AWp.exit ?_
                refine xT ?_
                refine xT ?_
                refine exL hsK216 fun hx => ?_
                subst hx
                exact oxI ⟨rfl, _, hkK216, (by first | (cbv; done) | ((repeat (cbv; simp only [c193])); first | done | cbv))⟩
            · rintro _ ⟨v215, hkK216, rfl⟩
              have hsK218 := (hK216 _ hkK216)
              refine xB ?_
              refine nB ?_
              refine nT ?_
              refine AWp.rg hT hA {} (by cbv) (lb rfl) ?_
              exact nT ⟨_, (soI hsK218).symm, rfl, (by cbv)⟩
          · replace hsK218 := cF c168 hsK218
            refine AWp.cdF rfl (by first | rfl | simp only [c168, Bool.not_true, Bool.not_false, cond_true, cond_false]) ?_
            refine AWp.exit ?_
            refine xT ?_
            refine xT ?_
            refine exL hsK218 fun hx => ?_
            subst hx
            exact oxI ⟨rfl, _, hkK218, (by first | (cbv; done) | ((repeat (cbv; simp only [c168])); first | done | cbv))⟩
        · rintro _ ⟨v217, hkK218, rfl⟩
          have h := (hK218 _ hkK218)
          refine xB ?_
          refine nT ?_
          refine AWp.seq ?_
          refine AWp.rg hT hA {} (by cbv) (lb rfl) ?_
          refine nT ?_
          refine AWp.ret ?_
          cases soI h
  · replace h := cF c5 h
    refine AWp.cdT rfl (by first | rfl | simp only [c5, Bool.not_true, Bool.not_false, cond_true, cond_false]) ?_
    refine AWp.seq ?_
    refine AWp.rg hT hA {} (by (repeat (cbv; simp only [c5])); first | done | cbv) (lb rfl) ?_
    refine nT ?_
    refine AWp.ret ?_
    refine rT ?_
    cases soI h
    exact ⟨rfl, rfl, rfl, lb rfl, _, rfl⟩

theorem R68bw {A : Ar} (hA : A = Ar.std) {x1 : Int} {x2 : Int} {x3 : List D} {x4 : List D} {v43 : Int} (h : R68b A x1 x2 x3 x4 = some v43) : ACall Try.prog 68 [(.ptr 1 2), (.d (.int .i64 x1)), (.d (.int .u8 x2))] [(.arr 1 x3), (.arr 1 x4)] (.d (.int .u8 v43)) [(.arr 1 x3), (.arr 1 x4)] := by
  unfold R68b at h
  refine ACall.enter hT (fn := Try.f68) Try.func68 rfl (by decide) (by simp [Try.f68]) rfl rfl rfl rfl (lb rfl) ?_
  refine AWp.seq ?_
  refine AWp.rg hT hA {} (by cbv) (lb rfl) ?_
  refine nT ?_
  refine AWp.seq ?_
  refine AWp.rg hT hA {} (by cbv) (lb rfl) ?_
  refine nT ?_
  refine AWp.seq ?_
  refine AWp.seq ?_
  refine AWp.region ?_
  obtain ⟨r6, e5, h⟩ := bindS h
  refine AOps.cc hT hA {} (by cbv) (lb rfl) (R76w hA e5) rfl (.inr rfl) rfl rfl rfl (lb rfl) rfl rfl ?_
  refine AOps.cd hT hA {} (by cbv) (lb rfl) ?_
  refine nT ?_
  refine AWp.block ?_
  obtain ⟨xK42, hxK42, K42, hK42, hkK42⟩ := bindK h
  refine AWp.cutX 0 [7] [] 2 (lb rfl) (fun τ => ∃ v41, K42 v41 = some v43 ∧ τ = { env := [(7, (.d (.int .u8 v41)))], heap := [(.arr 1 x3), (.arr 1 x4)], n := 28 }) ?_ ?_
  · skip
    refine AWp.iter hxK42 [0, 1, 7, 11, 12, 13] [] 2 (lb rfl) (fun (v23, v24) => { env := [(0, (.ptr 1 2)), (1, (.d (.int .i64 x1))), (7, (.d (.int .u8 v23))), (11, (.own 1 r6)), (12, (.d (.int .i64 (A.len r6)))), (13, (.d (.int .i64 v24)))], heap := [(.arr 1 x3), (.arr 1 x4)], n := 28 }) ⟨rfl, (by cbv)⟩ ?_
    rintro ⟨v23, v24⟩ eK42 hsK42
    dsimp only [R68bL0] at hsK42
    refine AWp.seq ?_
    refine AWp.rg hT hA {} (by cbv) (lb rfl) ?_
    refine nT ?_
    refine AWp.seq ?_
    rcases tf (A.zlt v24 (A.len r6)) with c25 | c25
    · replace hsK42 := cT c25 hsK42
      refine AWp.cdT rfl (by first | rfl | simp only [c25, Bool.not_true, Bool.not_false, cond_true, cond_false]) ?_
      refine AWp.skip ?_
      refine nT ?_
      refine AWp.seq ?_
      refine AWp.block ?_
      refine AWp.seq ?_
      obtain ⟨a26, e27, hsK42⟩ := bindS hsK42
      obtain ⟨f28, f29⟩ := gtI e27
      refine AWp.rg hT hA {} (by (repeat (cbv; simp only [c25, f28, f29])); first | done | cbv) (lb rfl) ?_
      refine nT ?_
      obtain ⟨_, e30, hsK42⟩ := bindS hsK42
      have f32 := ckI e30
      obtain ⟨_, e31, hsK42⟩ := bindS hsK42
      have f33 := ckI e31
      obtain ⟨_, e34, hsK42⟩ := bindS hsK42
      have f36 := ckI e34
      obtain ⟨_, e35, hsK42⟩ := bindS hsK42
      have f37 := ckI e35
      obtain ⟨a38, e39, hsK42⟩ := bindS hsK42
      have f40 := gcI e39
      refine AWp.rg hT hA { tk := [25] } (by (repeat (cbv; simp only [c25, f32, f33, f36, f37, f40])); first | done | cbv) (lb rfl) ?_
      refine nB ?_
      refine nT ?_
      refine AWp.rg hT hA {} (by (repeat (cbv; simp only [c25])); first | done | cbv) (lb rfl) ?_
      exact nT ⟨_, (soI hsK42).symm, rfl, (by first | (cbv; done) | ((repeat (cbv; simp only [c25])); first | done | cbv))⟩
    · replace hsK42 := cF c25 hsK42
      refine AWp.cdF rfl (by first | rfl | simp only [c25, Bool.not_true, Bool.not_false, cond_true, cond_false]) ?_
      refine AWp.exit ?_
      refine xT ?_
      refine xT ?_
      refine exL hsK42 fun hx => ?_
      subst hx
      exact oxI ⟨rfl, _, hkK42, (by first | (cbv; done) | ((repeat (cbv; simp only [c25])); first | done | cbv))⟩
  · rintro _ ⟨v41, hkK42, rfl⟩
    have h := (hK42 _ hkK42)
    refine xB ?_
    refine nT ?_
    refine AWp.seq ?_
    refine AWp.rg hT hA { tk := [7, 27] } (by cbv) (lb rfl) ?_
    refine nT ?_
    refine AWp.ret ?_
    cases soI h
    exact ⟨rfl, rfl, rfl, lb rfl, _, rfl⟩

theorem R68cw {A : Ar} (hA : A = Ar.std) {x1 : Int} {x2 : Int} {x3 : List D} {x4 : List D} {v43 : Int} (h : R68c A x1 x2 x3 x4 = some v43) : ACall Try.prog 68 [(.ptr 1 26), (.d (.int .i64 x1)), (.d (.int .u8 x2))] [(.arr 1 x3), (.arr 1 x4)] (.d (.int .u8 v43)) [(.arr 1 x3), (.arr 1 x4)] := by
  unfold R68c at h
  refine ACall.enter hT (fn := Try.f68) Try.func68 rfl (by decide) (by simp [Try.f68]) rfl rfl rfl rfl (lb rfl) ?_
  refine AWp.seq ?_
  refine AWp.rg hT hA {} (by cbv) (lb rfl) ?_
  refine nT ?_
  refine AWp.seq ?_
  refine AWp.rg hT hA {} (by cbv) (lb rfl) ?_
  refine nT ?_
  refine AWp.seq ?_
  refine AWp.seq ?_
  refine AWp.region ?_
  obtain ⟨r6, e5, h⟩ := bindS h
  refine AOps.cc hT hA {} (by cbv) (lb rfl) (R76w hA e5) rfl (.inr rfl) rfl rfl rfl (lb rfl) rfl rfl ?_
  refine AOps.cd hT hA {} (by cbv) (lb rfl) ?_
  refine nT ?_
  refine AWp.block ?_
  obtain ⟨xK42, hxK42, K42, hK42, hkK42⟩ := bindK h
  refine AWp.cutX 0 [7] [] 2 (lb rfl) (fun τ => ∃ v41, K42 v41 = some v43 ∧ τ = { env := [(7, (.d (.int .u8 v41)))], heap := [(.arr 1 x3), (.arr 1 x4)], n := 28 }) ?_ ?_
  · skip
    refine AWp.iter hxK42 [0, 1, 7, 11, 12, 13] [] 2 (lb rfl) (fun (v23, v24) => { env := [(0, (.ptr 1 26)), (1, (.d (.int .i64 x1))), (7, (.d (.int .u8 v23))), (11, (.own 1 r6)), (12, (.d (.int .i64 (A.len r6)))), (13, (.d (.int .i64 v24)))], heap := [(.arr 1 x3), (.arr 1 x4)], n := 28 }) ⟨rfl, (by cbv)⟩ ?_
    rintro ⟨v23, v24⟩ eK42 hsK42
    dsimp only [R68cL0] at hsK42
    refine AWp.seq ?_
    refine AWp.rg hT hA {} (by cbv) (lb rfl) ?_
    refine nT ?_
    refine AWp.seq ?_
    rcases tf (A.zlt v24 (A.len r6)) with c25 | c25
    · replace hsK42 := cT c25 hsK42
      refine AWp.cdT rfl (by first | rfl | simp only [c25, Bool.not_true, Bool.not_false, cond_true, cond_false]) ?_
      refine AWp.skip ?_
      refine nT ?_
      refine AWp.seq ?_
      refine AWp.block ?_
      refine AWp.seq ?_
      obtain ⟨a26, e27, hsK42⟩ := bindS hsK42
      obtain ⟨f28, f29⟩ := gtI e27
      refine AWp.rg hT hA {} (by (repeat (cbv; simp only [c25, f28, f29])); first | done | cbv) (lb rfl) ?_
      refine nT ?_
      obtain ⟨_, e30, hsK42⟩ := bindS hsK42
      have f32 := ckI e30
      obtain ⟨_, e31, hsK42⟩ := bindS hsK42
      have f33 := ckI e31
      obtain ⟨_, e34, hsK42⟩ := bindS hsK42
      have f36 := ckI e34
      obtain ⟨_, e35, hsK42⟩ := bindS hsK42
      have f37 := ckI e35
      obtain ⟨a38, e39, hsK42⟩ := bindS hsK42
      have f40 := gcI e39
      refine AWp.rg hT hA { tk := [25] } (by (repeat (cbv; simp only [c25, f32, f33, f36, f37, f40])); first | done | cbv) (lb rfl) ?_
      refine nB ?_
      refine nT ?_
      refine AWp.rg hT hA {} (by (repeat (cbv; simp only [c25])); first | done | cbv) (lb rfl) ?_
      exact nT ⟨_, (soI hsK42).symm, rfl, (by first | (cbv; done) | ((repeat (cbv; simp only [c25])); first | done | cbv))⟩
    · replace hsK42 := cF c25 hsK42
      refine AWp.cdF rfl (by first | rfl | simp only [c25, Bool.not_true, Bool.not_false, cond_true, cond_false]) ?_
      refine AWp.exit ?_
      refine xT ?_
      refine xT ?_
      refine exL hsK42 fun hx => ?_
      subst hx
      exact oxI ⟨rfl, _, hkK42, (by first | (cbv; done) | ((repeat (cbv; simp only [c25])); first | done | cbv))⟩
  · rintro _ ⟨v41, hkK42, rfl⟩
    have h := (hK42 _ hkK42)
    refine xB ?_
    refine nT ?_
    refine AWp.seq ?_
    refine AWp.rg hT hA { tk := [7, 27] } (by cbv) (lb rfl) ?_
    refine nT ?_
    refine AWp.ret ?_
    cases soI h
    exact ⟨rfl, rfl, rfl, lb rfl, _, rfl⟩

theorem R58awa {A : Ar} (hA : A = Ar.std) {x1 : Int} {x2 : List D} {x3 : List D} {v220 : List D} (h : R58a A x1 x2 x3 = some (.inl v220)) : ACall Try.prog 58 [(.d (.agg [(.int .i64 x1), (.list 3 x2)]))] [(.arr 1 x3)] (.tuple [(.ptr 1 0), (.d (.int .i64 0))]) [(.arr 1 x3), (.arr 1 v220)] := by
  unfold R58a at h
  refine ACall.enter hT (fn := Try.f58) Try.func58 rfl (by decide) (by simp [Try.f58]) rfl rfl rfl rfl (lb rfl) ?_
  refine AWp.seq ?_
  refine AWp.rg hT hA {} (by cbv) (lb rfl) ?_
  refine nT ?_
  refine AWp.seq ?_
  refine AWp.seq ?_
  refine AWp.region ?_
  obtain ⟨r5, e4, h⟩ := bindS h
  refine AOps.cc hT hA {} (by cbv) (lb rfl) (R33w hA e4) rfl (.inr rfl) rfl rfl rfl (lb rfl) rfl rfl ?_
  refine AOps.cd hT hA {} (by cbv) (lb rfl) ?_
  refine nT ?_
  rcases tf r5 with c6 | c6
  · replace h := cT c6 h
    refine AWp.cdF rfl (by first | rfl | simp only [c6, Bool.not_true, Bool.not_false, cond_true, cond_false]) ?_
    refine AWp.skip ?_
    refine nT ?_
    refine AWp.seq ?_
    have f7 := lnF hA (l := [(.int .i64 x1), (.list 3 x2), (.int .u8 0), (.int .u8 0), (.int .u8 0), (.int .u8 0), (.int .u8 0), (.int .u8 0), (.int .u8 0), (.int .u8 0), (.int .u8 0), (.int .u8 0), (.int .u8 0), (.int .u8 0), (.int .u8 0), (.int .u8 0), (.int .u8 0), (.int .u8 0), (.int .u8 0), (.int .u8 0), (.int .u8 0), (.int .u8 0), (.int .u8 0), (.int .u8 0), (.int .u8 0), (.int .u8 0), (.int .u8 0), (.int .u8 0), (.int .u8 0), (.int .u8 0), (.int .u8 0), (.int .u8 0), (.int .u8 0), (.int .u8 0), (.int .u8 0), (.int .u8 0), (.int .u8 0), (.int .u8 0), (.int .u8 0), (.int .u8 0), (.int .u8 0), (.int .u8 0), (.int .u8 0), (.int .u8 0), (.int .u8 0), (.int .u8 0), (.int .u8 0), (.int .u8 0), (.int .u8 0), (.int .u8 0)]) (n := 50) rfl
    refine AWp.rg hT hA { arr := [17] } (by (repeat (cbv; simp only [c6, f7])); first | done | cbv) (lb rfl) ?_
    refine nT ?_
    refine AWp.seq ?_
    refine AWp.seq ?_
    refine AWp.rg hT hA {} (by (repeat (cbv; simp only [c6])); first | done | cbv) (lb rfl) ?_
    refine nT ?_
    refine AWp.block ?_
    obtain ⟨xK71, hxK71, K71, hK71, hkK71⟩ := bindK h
    refine AWp.cutX 0 [1, 4] [] 2 (lb rfl) (fun τ => ∃ v70, K71 v70 = some (.inl v220) ∧ τ = { env := [(1, (.lbox [(.d (.int .i64 x1)), (.d (.list 3 x2))])), (4, (.ptr 1 0))], heap := [(.arr 1 x3), (.arr 1 v70)], n := 111 }) ?_ ?_
    · skip
      refine AWp.iter hxK71 [1, 4, 19, 20, 21] [] 2 (lb rfl) (fun (v38, v39) => { env := [(1, (.lbox [(.d (.int .i64 x1)), (.d (.list 3 x2))])), (4, (.ptr 1 0)), (19, (.d (.list 3 x2))), (20, (.d (.int .i64 (A.len x2)))), (21, (.d (.int .i64 v38)))], heap := [(.arr 1 x3), (.arr 1 v39)], n := 111 }) ⟨rfl, (by first | (cbv; done) | ((repeat (cbv; simp only [c6])); first | done | cbv))⟩ ?_
      rintro ⟨v38, v39⟩ eK71 hsK71
      dsimp only [R58aL0] at hsK71
      refine AWp.seq ?_
      refine AWp.rg hT hA {} (by cbv) (lb rfl) ?_
      refine nT ?_
      refine AWp.seq ?_
      rcases tf (A.zlt v38 (A.len x2)) with c40 | c40
      · replace hsK71 := cT c40 hsK71
        refine AWp.cdT rfl (by first | rfl | simp only [c40, Bool.not_true, Bool.not_false, cond_true, cond_false]) ?_
        refine AWp.skip ?_
        refine nT ?_
        refine AWp.seq ?_
        refine AWp.block ?_
        refine AWp.seq ?_
        obtain ⟨⟨a41, a42, a43⟩, e44, hsK71⟩ := bindS hsK71
        obtain ⟨f45, f46⟩ := gtI e44
        refine AWp.rg hT hA { tk := [24] } (by (repeat (cbv; simp only [c40, f45, f46])); first | done | cbv) (lb rfl) ?_
        refine nT ?_
        obtain ⟨_, e47, hsK71⟩ := bindS hsK71
        have f49 := ckI e47
        obtain ⟨_, e48, hsK71⟩ := bindS hsK71
        have f50 := ckI e48
        obtain ⟨_, e51, hsK71⟩ := bindS hsK71
        have f53 := ckI e51
        obtain ⟨_, e52, hsK71⟩ := bindS hsK71
        have f54 := ckI e52
        obtain ⟨a55, e56, hsK71⟩ := bindS hsK71
        have f57 := gcI e56
        obtain ⟨_, e58, hsK71⟩ := bindS hsK71
        have f59 := nkI e58
        obtain ⟨_, e60, hsK71⟩ := bindS hsK71
        have f62 := ckI e60
        obtain ⟨_, e61, hsK71⟩ := bindS hsK71
        have f63 := ckI e61
        obtain ⟨_, e64, hsK71⟩ := bindS hsK71
        have f66 := ckI e64
        obtain ⟨_, e65, hsK71⟩ := bindS hsK71
        have f67 := ckI e65
        obtain ⟨d68, e69, hsK71⟩ := bindS hsK71
        refine AWp.rd hT hA { tk := [38] } rfl (by (repeat (cbv; simp only [c40, f49, f50, f53, f54, f57, f59, f62, f63, f66, f67, e69])); first | done | cbv) (by kernel_rfl) (lb rfl) ?_
        refine nB ?_
        refine nT ?_
        refine AWp.rg hT hA {} (by (repeat (cbv; simp only [c40])); first | done | cbv) (lb rfl) ?_
        exact nT ⟨_, (soI hsK71).symm, rfl, (by first | (cbv; done) | ((repeat (cbv; simp only [c40])); first | done | cbv))⟩
      · replace hsK71 := cF c40 hsK71
        refine AWp.cdF rfl (by first | rfl | simp only [c40, Bool.not_true, Bool.not_false, cond_true, cond_false]) ?_
        refine AWp.exit ?_
        refine xT ?_
        refine xT ?_
        refine exL hsK71 fun hx => ?_
        subst hx
        exact oxI ⟨rfl, _, hkK71, (by first | (cbv; done) | ((repeat (cbv; simp only [c40])); first | done | cbv))⟩
    · rintro _ ⟨v70, hkK71, rfl⟩
      have h := (hK71 _ hkK71)
      refine xB ?_
      refine nT ?_
      refine AWp.seq ?_
      refine AWp.seq ?_
      refine AWp.rg hT hA {} (by cbv) (lb rfl) ?_
      refine nT ?_
      refine AWp.block ?_
      obtain ⟨xK117, hxK117, K117, hK117, hkK117⟩ := bindK h
      refine AWp.cutX 2 [1, 4] [] 2 (lb rfl) (fun τ => ∃ v116, K117 v116 = some (.inl v220) ∧ τ = { env := [(1, (.lbox [(.d (.int .i64 x1)), (.d (.list 3 x2))])), (4, (.ptr 1 0))], heap := [(.arr 1 x3), (.arr 1 v116)], n := 111 }) ?_ ?_
      · skip
        refine AWp.iter hxK117 [1, 4, 45, 46] [] 2 (lb rfl) (fun (v93, v94) => { env := [(1, (.lbox [(.d (.int .i64 x1)), (.d (.list 3 x2))])), (4, (.ptr 1 0)), (45, (.d (.int .i64 x1))), (46, (.d (.int .i64 v93)))], heap := [(.arr 1 x3), (.arr 1 v94)], n := 111 }) ⟨rfl, (by cbv)⟩ ?_
        rintro ⟨v93, v94⟩ eK117 hsK117
        dsimp only [R58aL2] at hsK117
        refine AWp.seq ?_
        refine AWp.rg hT hA {} (by cbv) (lb rfl) ?_
        refine nT ?_
        refine AWp.seq ?_
        rcases tf (A.zlt v93 x1) with c95 | c95
        · replace hsK117 := cT c95 hsK117
          refine AWp.cdT rfl (by first | rfl | simp only [c95, Bool.not_true, Bool.not_false, cond_true, cond_false]) ?_
          refine AWp.skip ?_
          refine nT ?_
          refine AWp.seq ?_
          refine AWp.block ?_
          refine AWp.seq ?_
          refine AWp.rg hT hA {} (by (repeat (cbv; simp only [c95])); first | done | cbv) (lb rfl) ?_
          refine nT ?_
          refine AWp.seq ?_
          obtain ⟨_, e96, hsK117⟩ := bindS hsK117
          have f97 := nkI e96
          refine AWp.rg hT hA { tk := [50] } (by (repeat (cbv; simp only [c95, f97])); first | done | cbv) (lb rfl) ?_
          refine nT ?_
          refine AWp.seq ?_
          refine AWp.seq ?_
          refine AWp.region ?_
          obtain ⟨r99, e98, hsK117⟩ := bindS hsK117
          refine AOps.cc hT hA { tk := [57] } (by (repeat (cbv; simp only [c95])); first | done | cbv) (lb rfl) (R68bw hA e98) rfl (.inl rfl) rfl rfl rfl (lb rfl) rfl rfl ?_
          refine AOps.cd hT hA { tk := [57] } (by (repeat (cbv; simp only [c95])); first | done | cbv) (lb rfl) ?_
          refine nT ?_
          refine AWp.block ?_
          obtain ⟨xK109, hxK109, K109, hK109, hkK109⟩ := bindK hsK117
          refine AWp.cutX 4 [1, 4, 7, 8, 45, 46] [] 2 (lb rfl) (fun τ => ∃ v108, K109 v108 = some eK117 ∧ τ = { env := [(1, (.lbox [(.d (.int .i64 x1)), (.d (.list 3 x2))])), (4, (.ptr 1 0)), (7, (.d (.int .i64 v93))), (8, (.d (.int .u8 v108))), (45, (.d (.int .i64 x1))), (46, (.d (.int .i64 v93)))], heap := [(.arr 1 x3), (.arr 1 v94)], n := 111 }) ?_ ?_
          · skip
            refine AWp.iter hxK109 [1, 4, 7, 8, 9, 45, 46] [] 2 (lb rfl) (fun (v103, v104) => { env := [(1, (.lbox [(.d (.int .i64 x1)), (.d (.list 3 x2))])), (4, (.ptr 1 0)), (7, (.d (.int .i64 v93))), (8, (.d (.int .u8 v103))), (9, (.d (.int .u8 v104))), (45, (.d (.int .i64 x1))), (46, (.d (.int .i64 v93)))], heap := [(.arr 1 x3), (.arr 1 v94)], n := 111 }) ⟨rfl, (by first | (cbv; done) | ((repeat (cbv; simp only [c95])); first | done | cbv))⟩ ?_
            rintro ⟨v103, v104⟩ eK109 hsK109
            dsimp only [R58aL1] at hsK109
            refine AWp.seq ?_
            refine AWp.seq ?_
            refine AWp.rg hT hA {} (by cbv) (lb rfl) ?_
            refine nT ?_
            rcases tf (A.zeq v104 v103) with c105 | c105
            · replace hsK109 := cT c105 hsK109
              refine AWp.cdF rfl (by first | rfl | simp only [c105, Bool.not_true, Bool.not_false, cond_true, cond_false]) ?_
              refine AWp.exit ?_
              refine xT ?_
              refine xT ?_
              refine exL hsK109 fun hx => ?_
              subst hx
              exact oxI ⟨rfl, _, hkK109, (by first | (cbv; done) | ((repeat (cbv; simp only [c105])); first | done | cbv))⟩
            · replace hsK109 := cF c105 hsK109
              refine AWp.cdT rfl (by first | rfl | simp only [c105, Bool.not_true, Bool.not_false, cond_true, cond_false]) ?_
              refine AWp.skip ?_
              refine nT ?_
              refine AWp.seq ?_
              refine AWp.block ?_
              refine AWp.rg hT hA { tk := [9, 68] } (by (repeat (cbv; simp only [c105])); first | done | cbv) (lb rfl) ?_
              refine nB ?_
              refine nT ?_
              refine AWp.region ?_
              obtain ⟨r107, e106, hsK109⟩ := bindS hsK109
              refine AOps.cc hT hA { tk := [67] } (by (repeat (cbv; simp only [c105])); first | done | cbv) (lb rfl) (R68bw hA e106) rfl (.inl rfl) rfl rfl rfl (lb rfl) rfl rfl ?_
              refine AOps.cd hT hA { tk := [67] } (by (repeat (cbv; simp only [c105])); first | done | cbv) (lb rfl) ?_
              exact nT ⟨_, (soI hsK109).symm, rfl, (by first | (cbv; done) | ((repeat (cbv; simp only [c105])); first | done | cbv))⟩
          · rintro _ ⟨v108, hkK109, rfl⟩
            have hsK117 := (hK109 _ hkK109)
            refine xB ?_
            refine nT ?_
            obtain ⟨_, e110, hsK117⟩ := bindS hsK117
            have f112 := ckI e110
            obtain ⟨_, e111, hsK117⟩ := bindS hsK117
            have f113 := ckI e111
            obtain ⟨d114, e115, hsK117⟩ := bindS hsK117
            refine AWp.rg hT hA { tk := [8, 71] } (by (repeat (cbv; simp only [f112, f113, e115])); first | done | cbv) (lb rfl) ?_
            refine nB ?_
            refine nT ?_
            refine AWp.rg hT hA {} (by cbv) (lb rfl) ?_
            exact nT ⟨_, (soI hsK117).symm, rfl, (by cbv)⟩
        · replace hsK117 := cF c95 hsK117
          refine AWp.cdF rfl (by first | rfl | simp only [c95, Bool.not_true, Bool.not_false, cond_true, cond_false]) ?_
          refine AWp.exit ?_
          refine xT ?_
          refine xT ?_
          refine exL hsK117 fun hx => ?_
          subst hx
          exact oxI ⟨rfl, _, hkK117, (by first | (cbv; done) | ((repeat (cbv; simp only [c95])); first | done | cbv))⟩
      · rintro _ ⟨v116, hkK117, rfl⟩
        have h := (hK117 _ hkK117)
        refine xB ?_
        refine nT ?_
        refine AWp.seq ?_
        refine AWp.seq ?_
        refine AWp.rg hT hA {} (by cbv) (lb rfl) ?_
        refine nT ?_
        refine AWp.block ?_
        obtain ⟨xK219, hxK219, K219, hK219, hkK219⟩ := bindK h
        refine AWp.cutX 6 [4] [] 2 (lb rfl) (fun τ => ∃ v218, K219 v218 = some (.inl v220) ∧ τ = { env := [(4, (.ptr 1 0))], heap := [(.arr 1 x3), (.arr 1 v218)], n := 111 }) ?_ ?_
        · skip
          refine AWp.iter hxK219 [1, 4, 10] [] 2 (lb rfl) (fun (v167, v168) => { env := [(1, (.lbox [(.d (.int .i64 x1)), (.d (.list 3 x2))])), (4, (.ptr 1 0)), (10, (.d (.int .i64 v167)))], heap := [(.arr 1 x3), (.arr 1 v168)], n := 111 }) ⟨rfl, (by cbv)⟩ ?_
          rintro ⟨v167, v168⟩ eK219 hsK219
          dsimp only [R58aL4] at hsK219
          refine AWp.seq ?_
          refine AWp.seq ?_
          refine AWp.rg hT hA {} (by cbv) (lb rfl) ?_
          refine nT ?_
          rcases tf (A.zle v167 3) with c169 | c169
          · replace hsK219 := cT c169 hsK219
            refine AWp.cdT rfl (by first | rfl | simp only [c169, Bool.not_true, Bool.not_false, cond_true, cond_false]) ?_
            refine AWp.skip ?_
            refine nT ?_
            refine AWp.seq ?_
            refine AWp.block ?_
            refine AWp.seq ?_
            refine AWp.rg hT hA {} (by (repeat (cbv; simp only [c169])); first | done | cbv) (lb rfl) ?_
            refine nT ?_
            refine AWp.block ?_
            obtain ⟨xK217, hxK217, K217, hK217, hkK217⟩ := bindK hsK219
            refine AWp.cutX 8 [1, 4, 10] [] 2 (lb rfl) (fun τ => ∃ v216, K217 v216 = some eK219 ∧ τ = { env := [(1, (.lbox [(.d (.int .i64 x1)), (.d (.list 3 x2))])), (4, (.ptr 1 0)), (10, (.d (.int .i64 v167)))], heap := [(.arr 1 x3), (.arr 1 v216)], n := 111 }) ?_ ?_
            · skip
              refine AWp.iter hxK217 [1, 4, 10, 82, 83] [] 2 (lb rfl) (fun (v192, v193) => { env := [(1, (.lbox [(.d (.int .i64 x1)), (.d (.list 3 x2))])), (4, (.ptr 1 0)), (10, (.d (.int .i64 v167))), (82, (.d (.int .i64 x1))), (83, (.d (.int .i64 v192)))], heap := [(.arr 1 x3), (.arr 1 v193)], n := 111 }) ⟨rfl, (by first | (cbv; done) | ((repeat (cbv; simp only [c169])); first | done | cbv))⟩ ?_
              rintro ⟨v192, v193⟩ eK217 hsK217
              dsimp only [R58aL3] at hsK217
              refine AWp.seq ?_
              refine AWp.rg hT hA {} (by cbv) (lb rfl) ?_
              refine nT ?_
              refine AWp.seq ?_
              rcases tf (A.zlt v192 x1) with c194 | c194
              · replace hsK217 := cT c194 hsK217
                refine AWp.cdT rfl (by first | rfl | simp only [c194, Bool.not_true, Bool.not_false, cond_true, cond_false]) ?_
                refine AWp.skip ?_
                refine nT ?_
                refine AWp.seq ?_
                refine AWp.block ?_
                refine AWp.seq ?_
                refine AWp.rg hT hA {} (by (repeat (cbv; simp only [c194])); first | done | cbv) (lb rfl) ?_
                refine nT ?_
                refine AWp.regionDraw rfl (lb rfl) ?_
                obtain ⟨_, e195, hsK217⟩ := bindS hsK217
                have f197 := ckI e195
                obtain ⟨_, e196, hsK217⟩ := bindS hsK217
                have f198 := ckI e196
                obtain ⟨a199, e200, hsK217⟩ := bindS hsK217
                have f201 := gcI e200
                obtain ⟨r203, e202, hsK217⟩ := bindS hsK217
                refine DOps.cp hT hA { tk := [104] } rfl (by (repeat (cbv; simp only [c194, f197, f198, f201])); first | done | cbv) (R68bw hA e202) rfl rfl rfl rfl (lb rfl) rfl rfl ?_
                obtain ⟨r205, e204, hsK217⟩ := bindS hsK217
                refine DOps.cp hT hA { tk := [104] } rfl (by (repeat (cbv; simp only [c194, f197, f198, f201])); first | done | cbv) (R68cw hA e204) rfl rfl rfl rfl (lb rfl) rfl rfl ?_
                obtain ⟨_, e206, hsK217⟩ := bindS hsK217
                have f208 := ckI e206
                obtain ⟨_, e207, hsK217⟩ := bindS hsK217
                have f209 := ckI e207
                obtain ⟨_, e210, hsK217⟩ := bindS hsK217
                have f212 := ckI e210
                obtain ⟨_, e211, hsK217⟩ := bindS hsK217
                have f213 := ckI e211
                obtain ⟨d214, e215, hsK217⟩ := bindS hsK217
                refine DOps.cd hT hA { tk := [104] } rfl (by (repeat (cbv; simp only [c194, f197, f198, f201, f208, f209, f212, f213, e215])); first | done | cbv) (by kernel_rfl) ?_
                refine nB ?_
                refine nT ?_
                refine AWp.rg hT hA {} (by (repeat (cbv; simp only [c194])); first | done | cbv) (lb rfl) ?_
                exact nT ⟨_, (soI hsK217).symm, rfl, (by first | (cbv; done) | ((repeat (cbv; simp only [c194])); first | done | cbv))⟩
              · replace hsK217 := cF c194 hsK217
                refine AWp.cdF rfl (by first | rfl | simp only [c194, Bool.not_true, Bool.not_false, cond_true, cond_false]) ?_
                refine AWp.exit ?_
                refine xT ?_
                refine xT ?_
                refine exL hsK217 fun hx => ?_
                subst hx
                exact oxI ⟨rfl, _, hkK217, (by first | (cbv; done) | ((repeat (cbv; simp only [c194])); first | done | cbv))⟩
            · rintro _ ⟨v216, hkK217, rfl⟩
              have hsK219 := (hK217 _ hkK217)
              refine xB ?_
              refine nB ?_
              refine nT ?_
              refine AWp.rg hT hA {} (by cbv) (lb rfl) ?_
              exact nT ⟨_, (soI hsK219).symm, rfl, (by cbv)⟩
          · replace hsK219 := cF c169 hsK219
            refine AWp.cdF rfl (by first | rfl | simp only [c169, Bool.not_true, Bool.not_false, cond_true, cond_false]) ?_
            refine AWp.exit ?_
            refine xT ?_
            refine xT ?_
            refine exL hsK219 fun hx => ?_
            subst hx
            exact oxI ⟨rfl, _, hkK219, (by first | (cbv; done) | ((repeat (cbv; simp only [c169])); first | done | cbv))⟩
        · rintro _ ⟨v218, hkK219, rfl⟩
          have h := (hK219 _ hkK219)
          refine xB ?_
          refine nT ?_
          refine AWp.seq ?_
          refine AWp.rg hT hA {} (by cbv) (lb rfl) ?_
          refine nT ?_
          refine AWp.ret ?_
          cases soI h
          exact ⟨rfl, rfl, rfl, lb rfl, _, rfl⟩
  · replace h := cF c6 h
    refine AWp.cdT rfl (by first | rfl | simp only [c6, Bool.not_true, Bool.not_false, cond_true, cond_false]) ?_
    refine AWp.seq ?_
    refine AWp.rg hT hA {} (by (repeat (cbv; simp only [c6])); first | done | cbv) (lb rfl) ?_
    refine nT ?_
    refine AWp.ret ?_
    refine rT ?_
    cases soI h

theorem R58awb {A : Ar} (hA : A = Ar.std) {x1 : Int} {x2 : List D} {x3 : List D} (h : R58a A x1 x2 x3 = some (.inr ())) : ACall Try.prog 58 [(.d (.agg [(.int .i64 x1), (.list 3 x2)]))] [(.arr 1 x3)] (.tuple [.nilptr, (.d (.int .i64 50))]) [(.arr 1 x3)] := by
  unfold R58a at h
  refine ACall.enter hT (fn := Try.f58) Try.func58 rfl (by decide) (by simp [Try.f58]) rfl rfl rfl rfl (lb rfl) ?_
  refine AWp.seq ?_
  refine AWp.rg hT hA {} (by cbv) (lb rfl) ?_
  refine nT ?_
  refine AWp.seq ?_
  refine AWp.seq ?_
  refine AWp.region ?_
  obtain ⟨r5, e4, h⟩ := bindS h
  refine AOps.cc hT hA {} (by cbv) (lb rfl) (R33w hA e4) rfl (.inr rfl) rfl rfl rfl (lb rfl) rfl rfl ?_
  refine AOps.cd hT hA {} (by cbv) (lb rfl) ?_
  refine nT ?_
  rcases tf r5 with c6 | c6
  · replace h := cT c6 h
    refine AWp.cdF rfl (by first | rfl | simp only [c6, Bool.not_true, Bool.not_false, cond_true, cond_false]) ?_
    refine AWp.skip ?_
    refine nT ?_
    refine AWp.seq ?_
    have f7 := lnF hA (l := [(.int .i64 x1), (.list 3 x2), (.int .u8 0), (.int .u8 0), (.int .u8 0), (.int .u8 0), (.int .u8 0), (.int .u8 0), (.int .u8 0), (.int .u8 0), (.int .u8 0), (.int .u8 0), (.int .u8 0), (.int .u8 0), (.int .u8 0), (.int .u8 0), (.int .u8 0), (.int .u8 0), (.int .u8 0), (.int .u8 0), (.int .u8 0), (.int .u8 0), (.int .u8 0), (.int .u8 0), (.int .u8 0), (.int .u8 0), (.int .u8 0), (.int .u8 0), (.int .u8 0), (.int .u8 0), (.int .u8 0), (.int .u8 0), (.int .u8 0), (.int .u8 0), (.int .u8 0), (.int .u8 0), (.int .u8 0), (.int .u8 0), (.int .u8 0), (.int .u8 0), (.int .u8 0), (.int .u8 0), (.int .u8 0), (.int .u8 0), (.int .u8 0), (.int .u8 0), (.int .u8 0), (.int .u8 0), (.int .u8 0), (.int .u8 0)]) (n := 50) rfl
    refine AWp.rg hT hA { arr := [17] } (by (repeat (cbv; simp only [c6, f7])); first | done | cbv) (lb rfl) ?_
    refine nT ?_
    refine AWp.seq ?_
    refine AWp.seq ?_
    refine AWp.rg hT hA {} (by (repeat (cbv; simp only [c6])); first | done | cbv) (lb rfl) ?_
    refine nT ?_
    refine AWp.block ?_
    obtain ⟨xK71, hxK71, K71, hK71, hkK71⟩ := bindK h
    refine AWp.cutX 0 [1, 4] [] 2 (lb rfl) (fun τ => ∃ v70, K71 v70 = some (.inr ()) ∧ τ = { env := [(1, (.lbox [(.d (.int .i64 x1)), (.d (.list 3 x2))])), (4, (.ptr 1 0))], heap := [(.arr 1 x3), (.arr 1 v70)], n := 111 }) ?_ ?_
    · skip
      refine AWp.iter hxK71 [1, 4, 19, 20, 21] [] 2 (lb rfl) (fun (v38, v39) => { env := [(1, (.lbox [(.d (.int .i64 x1)), (.d (.list 3 x2))])), (4, (.ptr 1 0)), (19, (.d (.list 3 x2))), (20, (.d (.int .i64 (A.len x2)))), (21, (.d (.int .i64 v38)))], heap := [(.arr 1 x3), (.arr 1 v39)], n := 111 }) ⟨rfl, (by first | (cbv; done) | ((repeat (cbv; simp only [c6])); first | done | cbv))⟩ ?_
      rintro ⟨v38, v39⟩ eK71 hsK71
      dsimp only [R58aL0] at hsK71
      refine AWp.seq ?_
      refine AWp.rg hT hA {} (by cbv) (lb rfl) ?_
      refine nT ?_
      refine AWp.seq ?_
      rcases tf (A.zlt v38 (A.len x2)) with c40 | c40
      · replace hsK71 := cT c40 hsK71
        refine AWp.cdT rfl (by first | rfl | simp only [c40, Bool.not_true, Bool.not_false, cond_true, cond_false]) ?_
        refine AWp.skip ?_
        refine nT ?_
        refine AWp.seq ?_
        refine AWp.block ?_
        refine AWp.seq ?_
        obtain ⟨⟨a41, a42, a43⟩, e44, hsK71⟩ := bindS hsK71
        obtain ⟨f45, f46⟩ := gtI e44
        refine AWp.rg hT hA { tk := [24] } (by (repeat (cbv; simp only [c40, f45, f46])); first | done | cbv) (lb rfl) ?_
        refine nT ?_
        obtain ⟨_, e47, hsK71⟩ := bindS hsK71
        have f49 := ckI e47
        obtain ⟨_, e48, hsK71⟩ := bindS hsK71
        have f50 := ckI e48
        obtain ⟨_, e51, hsK71⟩ := bindS hsK71
        have f53 := ckI e51
        obtain ⟨_, e52, hsK71⟩ := bindS hsK71
        have f54 := ckI e52
        obtain ⟨a55, e56, hsK71⟩ := bindS hsK71
        have f57 := gcI e56
        obtain ⟨_, e58, hsK71⟩ := bindS hsK71
        have f59 := nkI e58
        obtain ⟨_, e60, hsK71⟩ := bindS hsK71
        have f62 := ckI e60
        obtain ⟨_, e61, hsK71⟩ := bindS hsK71
        have f63 := ckI e61
        obtain ⟨_, e64, hsK71⟩ := bindS hsK71
        have f66 := ckI e64
        obtain ⟨_, e65, hsK71⟩ := bindS hsK71
        have f67 := ckI e65
        obtain ⟨d68, e69, hsK71⟩ := bindS hsK71
        refine AWp.rd hT hA { tk := [38] } rfl (by (repeat (cbv; simp only [c40, f49, f50, f53, f54, f57, f59, f62, f63, f66, f67, e69])); first | done | cbv) (by kernel_rfl) (lb rfl) ?_
        refine nB ?_
        refine nT ?_
        refine AWp.rg hT hA {} (by (repeat (cbv; simp only [c40])); first | done | cbv) (lb rfl) ?_
        exact nT ⟨_, (soI hsK71).symm, rfl, (by first | (cbv; done) | ((repeat (cbv; simp only [c40])); first | done | cbv))⟩
      · replace hsK71 := cF c40 hsK71
        refine AWp.cdF rfl (by first | rfl | simp only [c40, Bool.not_true, Bool.not_false, cond_true, cond_false]) ?_
        refine AWp.exit ?_
        refine xT ?_
        refine xT ?_
        refine exL hsK71 fun hx => ?_
        subst hx
        exact oxI ⟨rfl, _, hkK71, (by first | (cbv; done) | ((repeat (cbv; simp only [c40])); first | done | cbv))⟩
    · rintro _ ⟨v70, hkK71, rfl⟩
      have h := (hK71 _ hkK71)
      refine xB ?_
      refine nT ?_
      refine AWp.seq ?_
      refine AWp.seq ?_
      refine AWp.rg hT hA {} (by cbv) (lb rfl) ?_
      refine nT ?_
      refine AWp.block ?_
      obtain ⟨xK117, hxK117, K117, hK117, hkK117⟩ := bindK h
      refine AWp.cutX 2 [1, 4] [] 2 (lb rfl) (fun τ => ∃ v116, K117 v116 = some (.inr ()) ∧ τ = { env := [(1, (.lbox [(.d (.int .i64 x1)), (.d (.list 3 x2))])), (4, (.ptr 1 0))], heap := [(.arr 1 x3), (.arr 1 v116)], n := 111 }) ?_ ?_
      · skip
        refine AWp.iter hxK117 [1, 4, 45, 46] [] 2 (lb rfl) (fun (v93, v94) => { env := [(1, (.lbox [(.d (.int .i64 x1)), (.d (.list 3 x2))])), (4, (.ptr 1 0)), (45, (.d (.int .i64 x1))), (46, (.d (.int .i64 v93)))], heap := [(.arr 1 x3), (.arr 1 v94)], n := 111 }) ⟨rfl, (by cbv)⟩ ?_
        rintro ⟨v93, v94⟩ eK117 hsK117
        dsimp only [R58aL2] at hsK117
        refine AWp.seq ?_
        refine AWp.rg hT hA {} (by cbv) (lb rfl) ?_
        refine nT ?_
        refine AWp.seq ?_
        rcases tf (A.zlt v93 x1) with c95 | c95
        · replace hsK117 := cT c95 hsK117
          refine AWp.cdT rfl (by first | rfl | simp only [c95, Bool.not_true, Bool.not_false, cond_true, cond_false]) ?_
          refine AWp.skip ?_
          refine nT ?_
          refine AWp.seq ?_
          refine AWp.block ?_
          refine AWp.seq ?_
          refine AWp.rg hT hA {} (by (repeat (cbv; simp only [c95])); first | done | cbv) (lb rfl) ?_
          refine nT ?_
          refine AWp.seq ?_
          obtain ⟨_, e96, hsK117⟩ := bindS hsK117
          have f97 := nkI e96
          refine AWp.rg hT hA { tk := [50] } (by (repeat (cbv; simp only [c95, f97])); first | done | cbv) (lb rfl) ?_
          refine nT ?_
          refine AWp.seq ?_
          refine AWp.seq ?_
          refine AWp.region ?_
          obtain ⟨r99, e98, hsK117⟩ := bindS hsK117
          refine AOps.cc hT hA { tk := [57] } (by (repeat (cbv; simp only [c95])); first | done | cbv) (lb rfl) (R68bw hA e98) rfl (.inl rfl) rfl rfl rfl (lb rfl) rfl rfl ?_
          refine AOps.cd hT hA { tk := [57] } (by (repeat (cbv; simp only [c95])); first | done | cbv) (lb rfl) ?_
          refine nT ?_
          refine AWp.block ?_
          obtain ⟨xK109, hxK109, K109, hK109, hkK109⟩ := bindK hsK117
          refine AWp.cutX 4 [1, 4, 7, 8, 45, 46] [] 2 (lb rfl) (fun τ => ∃ v108, K109 v108 = some eK117 ∧ τ = { env := [(1, (.lbox [(.d (.int .i64 x1)), (.d (.list 3 x2))])), (4, (.ptr 1 0)), (7, (.d (.int .i64 v93))), (8, (.d (.int .u8 v108))), (45, (.d (.int .i64 x1))), (46, (.d (.int .i64 v93)))], heap := [(.arr 1 x3), (.arr 1 v94)], n := 111 }) ?_ ?_
          · skip
            refine AWp.iter hxK109 [1, 4, 7, 8, 9, 45, 46] [] 2 (lb rfl) (fun (v103, v104) => { env := [(1, (.lbox [(.d (.int .i64 x1)), (.d (.list 3 x2))])), (4, (.ptr 1 0)), (7, (.d (.int .i64 v93))), (8, (.d (.int .u8 v103))), (9, (.d (.int .u8 v104))), (45, (.d (.int .i64 x1))), (46, (.d (.int .i64 v93)))], heap := [(.arr 1 x3), (.arr 1 v94)], n := 111 }) ⟨rfl, (by first | (cbv; done) | ((repeat (cbv; simp only [c95])); first | done | cbv))⟩ ?_
            rintro ⟨v103, v104⟩ eK109 hsK109
            dsimp only [R58aL1] at hsK109
            refine AWp.seq ?_
            refine AWp.seq ?_
            refine AWp.rg hT hA {} (by cbv) (lb rfl) ?_
            refine nT ?_
            rcases tf (A.zeq v104 v103) with c105 | c105
            · replace hsK109 := cT c105 hsK109
              refine AWp.cdF rfl (by first | rfl | simp only [c105, Bool.not_true, Bool.not_false, cond_true, cond_false]) ?_
              refine AWp.exit ?_
              refine xT ?_
              refine xT ?_
              refine exL hsK109 fun hx => ?_
              subst hx
              exact oxI ⟨rfl, _, hkK109, (by first | (cbv; done) | ((repeat (cbv; simp only [c105])); first | done | cbv))⟩
            · replace hsK109 := cF c105 hsK109
              refine AWp.cdT rfl (by first | rfl | simp only [c105, Bool.not_true, Bool.not_false, cond_true, cond_false]) ?_
              refine AWp.skip ?_
              refine nT ?_
              refine AWp.seq ?_
              refine AWp.block ?_
              refine AWp.rg hT hA { tk := [9, 68] } (by (repeat (cbv; simp only [c105])); first | done | cbv) (lb rfl) ?_
              refine nB ?_
              refine nT ?_
              refine AWp.region ?_
              obtain ⟨r107, e106, hsK109⟩ := bindS hsK109
              refine AOps.cc hT hA { tk := [67] } (by (repeat (cbv; simp only [c105])); first | done | cbv) (lb rfl) (R68bw hA e106) rfl (.inl rfl) rfl rfl rfl (lb rfl) rfl rfl ?_
              refine AOps.cd hT hA { tk := [67] } (by (repeat (cbv; simp only [c105])); first | done | cbv) (lb rfl) ?_
              exact nT ⟨_, (soI hsK109).symm, rfl, (by first | (cbv; done) | ((repeat (cbv; simp only [c105])); first | done | cbv))⟩
          · rintro _ ⟨v108, hkK109, rfl⟩
            have hsK117 := (hK109 _ hkK109)
            refine xB ?_
            refine nT ?_
            obtain ⟨_, e110, hsK117⟩ := bindS hsK117
            have f112 := ckI e110
            obtain ⟨_, e111, hsK117⟩ := bindS hsK117
            have f113 := ckI e111
            obtain ⟨d114, e115, hsK117⟩ := bindS hsK117
            refine AWp.rg hT hA { tk := [8, 71] } (by (repeat (cbv; simp only [f112, f113, e115])); first | done | cbv) (lb rfl) ?_
            refine nB ?_
            refine nT ?_
            refine AWp.rg hT hA {} (by cbv) (lb rfl) ?_
            exact nT ⟨_, (soI hsK117).symm, rfl, (by cbv)⟩
        · replace hsK117 := cF c95 hsK117
          refine AWp.cdF rfl (by first | rfl | simp only [c95, Bool.not_true, Bool.not_false, cond_true, cond_false]) ?_
          refine AWp.exit ?_
          refine xT ?_
          refine xT ?_
          refine exL hsK117 fun hx => ?_
          subst hx
          exact oxI ⟨rfl, _, hkK117, (by first | (cbv; done) | ((repeat (cbv; simp only [c95])); first | done | cbv))⟩
      · rintro _ ⟨v116, hkK117, rfl⟩
        have h := (hK117 _ hkK117)
        refine xB ?_
        refine nT ?_
        refine AWp.seq ?_
        refine AWp.seq ?_
        refine AWp.rg hT hA {} (by cbv) (lb rfl) ?_
        refine nT ?_
        refine AWp.block ?_
        obtain ⟨xK219, hxK219, K219, hK219, hkK219⟩ := bindK h
        refine AWp.cutX 6 [4] [] 2 (lb rfl) (fun τ => ∃ v218, K219 v218 = some (.inr ()) ∧ τ = { env := [(4, (.ptr 1 0))], heap := [(.arr 1 x3), (.arr 1 v218)], n := 111 }) ?_ ?_
        · skip
          refine AWp.iter hxK219 [1, 4, 10] [] 2 (lb rfl) (fun (v167, v168) => { env := [(1, (.lbox [(.d (.int .i64 x1)), (.d (.list 3 x2))])), (4, (.ptr 1 0)), (10, (.d (.int .i64 v167)))], heap := [(.arr 1 x3), (.arr 1 v168)], n := 111 }) ⟨rfl, (by cbv)⟩ ?_
          rintro ⟨v167, v168⟩ eK219 hsK219
          dsimp only [R58aL4] at hsK219
          refine AWp.seq ?_
          refine AWp.seq ?_
          refine AWp.rg hT hA {} (by cbv) (lb rfl) ?_
          refine nT ?_
          rcases tf (A.zle v167 3) with c169 | c169
          · replace hsK219 := cT c169 hsK219
            refine AWp.cdT rfl (by first | rfl | simp only [c169, Bool.not_true, Bool.not_false, cond_true, cond_false]) ?_
            refine AWp.skip ?_
            refine nT ?_
            refine AWp.seq ?_
            refine AWp.block ?_
            refine AWp.seq ?_
            refine AWp.rg hT hA {} (by (repeat (cbv; simp only [c169])); first | done | cbv) (lb rfl) ?_
            refine nT ?_
            refine AWp.block ?_
            obtain ⟨xK217, hxK217, K217, hK217, hkK217⟩ := bindK hsK219
            refine AWp.cutX 8 [1, 4, 10] [] 2 (lb rfl) (fun τ => ∃ v216, K217 v216 = some eK219 ∧ τ = { env := [(1, (.lbox [(.d (.int .i64 x1)), (.d (.list 3 x2))])), (4, (.ptr 1 0)), (10, (.d (.int .i64 v167)))], heap := [(.arr 1 x3), (.arr 1 v216)], n := 111 }) ?_ ?_
            · skip
              refine AWp.iter hxK217 [1, 4, 10, 82, 83] [] 2 (lb rfl) (fun (v192, v193) => { env := [(1, (.lbox [(.d (.int .i64 x1)), (.d (.list 3 x2))])), (4, (.ptr 1 0)), (10, (.d (.int .i64 v167))), (82, (.d (.int .i64 x1))), (83, (.d (.int .i64 v192)))], heap := [(.arr 1 x3), (.arr 1 v193)], n := 111 }) ⟨rfl, (by first | (cbv; done) | ((repeat (cbv; simp only [c169])); first | done | cbv))⟩ ?_
              rintro ⟨v192, v193⟩ eK217 hsK217
              dsimp only [R58aL3] at hsK217
              refine AWp.seq ?_
              refine AWp.rg hT hA {} (by cbv) (lb rfl) ?_
              refine nT ?_
              refine AWp.seq ?_
              rcases tf (A.zlt v192 x1) with c194 | c194
              · replace hsK217 := cT c194 hsK217
                refine AWp.cdT rfl (by first | rfl | simp only [c194, Bool.not_true, Bool.not_false, cond_true, cond_false]) ?_
                refine AWp.skip ?_
                refine nT ?_
                refine AWp.seq ?_
                refine AWp.block ?_
                refine AWp.seq ?_
                refine AWp.rg hT hA {} (by (repeat (cbv; simp only [c194])); first | done | cbv) (lb rfl) ?_
                refine nT ?_
                refine AWp.regionDraw rfl (lb rfl) ?_
                obtain ⟨_, e195, hsK217⟩ := bindS hsK217
                have f197 := ckI e195
                obtain ⟨_, e196, hsK217⟩ := bindS hsK217
                have f198 := ckI e196
                obtain ⟨a199, e200, hsK217⟩ := bindS hsK217
                have f201 := gcI e200
                obtain ⟨r203, e202, hsK217⟩ := bindS hsK217
                refine DOps.cp hT hA { tk := [104] } rfl (by (repeat (cbv; simp only [c194, f197, f198, f201])); first | done | cbv) (R68bw hA e202) rfl rfl rfl rfl (lb rfl) rfl rfl ?_
                obtain ⟨r205, e204, hsK217⟩ := bindS hsK217
                refine DOps.cp hT hA { tk := [104] } rfl (by (repeat (cbv; simp only [c194, f197, f198, f201])); first | done | cbv) (R68cw hA e204) rfl rfl rfl rfl (lb rfl) rfl rfl ?_
                obtain ⟨_, e206, hsK217⟩ := bindS hsK217
                have f208 := ckI e206
                obtain ⟨_, e207, hsK217⟩ := bindS hsK217
                have f209 := ckI e207
                obtain ⟨_, e210, hsK217⟩ := bindS hsK217
                have f212 := ckI e210
                obtain ⟨_, e211, hsK217⟩ := bindS hsK217
                have f213 := ckI e211
                obtain ⟨d214, e215, hsK217⟩ := bindS hsK217
                refine DOps.cd hT hA { tk := [104] } rfl (by (repeat (cbv; simp only [c194, f197, f198, f201, f208, f209, f212, f213, e215])); first | done | cbv) (by kernel_rfl) ?_
                refine nB ?_
                refine nT ?_
                refine AWp.rg hT hA {} (by (repeat (cbv; simp only [c194])); first | done | cbv) (lb rfl) ?_
                exact nT ⟨_, (soI hsK217).symm, rfl, (by first | (cbv; done) | ((repeat (cbv; simp only [c194])); first | done | cbv))⟩
              · replace hsK217 := cF c194 hsK217
                refine AWp.cdF rfl (by first | rfl | simp only [c194, Bool.not_true, Bool.not_false, cond_true, cond_false]) ?_
                refine AWp.exit ?_
                refine xT ?_
                refine xT ?_
                refine exL hsK217 fun hx => ?_
                subst hx
                exact oxI ⟨rfl, _, hkK217, (by first | (cbv; done) | ((repeat (cbv; simp only [c194])); first | done | cbv))⟩
            · rintro _ ⟨v216, hkK217, rfl⟩
              have hsK219 := (hK217 _ hkK217)
              refine xB ?_
              refine nB ?_
              refine nT ?_
              refine AWp.rg hT hA {} (by cbv) (lb rfl) ?_
              exact nT ⟨_, (soI hsK219).symm, rfl, (by cbv)⟩
          · replace hsK219 := cF c169 hsK219
            refine AWp.cdF rfl (by first | rfl | simp only [c169, Bool.not_true, Bool.not_false, cond_true, cond_false]) ?_
            refine AWp.exit ?_
            refine xT ?_
            refine xT ?_
            refine exL hsK219 fun hx => ?_
            subst hx
            exact oxI ⟨rfl, _, hkK219, (by first | (cbv; done) | ((repeat (cbv; simp only [c169])); first | done | cbv))⟩
        · rintro _ ⟨v218, hkK219, rfl⟩
          have h := (hK219 _ hkK219)
          refine xB ?_
          refine nT ?_
          refine AWp.seq ?_
          refine AWp.rg hT hA {} (by cbv) (lb rfl) ?_
          refine nT ?_
          refine AWp.ret ?_
          cases soI h
  · replace h := cF c6 h
    refine AWp.cdT rfl (by first | rfl | simp only [c6, Bool.not_true, Bool.not_false, cond_true, cond_false]) ?_
    refine AWp.seq ?_
    refine AWp.rg hT hA {} (by (repeat (cbv; simp only [c6])); first | done | cbv) (lb rfl) ?_
    refine nT ?_
    refine AWp.ret ?_
    refine rT ?_
    cases soI h
    exact ⟨rfl, rfl, rfl, lb rfl, _, rfl⟩

theorem R70wa {A : Ar} (hA : A = Ar.std) {x1 : Int} {x2 : List D} {x3 : Int} {x4 : List D} {v14 : List D} {v15 : List D} (h : R70 A x1 x2 x3 x4 = some (.inl (v14, v15))) : ACall Try.prog 70 [(.d (.agg [(.int .i64 x1), (.list 3 x2)])), (.d (.agg [(.int .i64 x3), (.list 3 x4)]))] [] (.tuple [(.ptr 0 0), (.ptr 1 0), (.d (.int .i64 0))]) [(.arr 1 v14), (.arr 1 v15)] := by
  unfold R70 at h
  refine ACall.enter hT (fn := Try.f70) Try.func70 rfl (by decide) (by simp [Try.f70]) rfl rfl rfl rfl (lb rfl) ?_
  refine AWp.seq ?_
  refine AWp.rg hT hA {} (by cbv) (lb rfl) ?_
  refine nT ?_
  refine AWp.seq ?_
  refine AWp.region ?_
  obtain ⟨q7, e5, h⟩ := bindS h
  rcases q7 with r6 | _
  · replace h := (eL h)
    refine AOps.cc hT hA {} (by cbv) (lb rfl) (R58wa hA e5) rfl (.inl rfl) rfl rfl rfl (lb rfl) rfl rfl ?_
    refine AOps.cd hT hA {} (by cbv) (lb rfl) ?_
    refine nT ?_
    refine AWp.seq ?_
    refine AWp.seq ?_
    have f8 := zeqF hA (a := 0) (b := 0) (c := true) rfl
    refine AWp.rg hT hA {} (by (repeat (cbv; simp only [f8])); first | done | cbv) (lb rfl) ?_
    refine nT ?_
    refine AWp.cdF rfl (by first | rfl | simp only [f8, Bool.not_true, Bool.not_false, cond_true, cond_false]) ?_
    refine AWp.skip ?_
    refine nT ?_
    refine AWp.seq ?_
    refine AWp.region ?_
    obtain ⟨q11, e9, h⟩ := bindS h
    rcases q11 with r10 | _
    · replace h := (eL h)
      refine AOps.cc hT hA {} (by (repeat (cbv; simp only [f8])); first | done | cbv) (lb rfl) (R58awa hA e9) rfl (.inl rfl) rfl rfl rfl (lb rfl) rfl rfl ?_
      refine AOps.cd hT hA {} (by (repeat (cbv; simp only [f8])); first | done | cbv) (lb rfl) ?_
      refine nT ?_
      refine AWp.seq ?_
      refine AWp.rg hT hA {} (by (repeat (cbv; simp only [f8])); first | done | cbv) (lb rfl) ?_
      refine nT ?_
      refine AWp.ret ?_
      cases soI h
      exact ⟨rfl, rfl, rfl, lb rfl, _, rfl⟩
    · replace h := (eR h)
      refine AOps.cc hT hA {} (by (repeat (cbv; simp only [f8])); first | done | cbv) (lb rfl) (R58awb hA e9) rfl (.inl rfl) rfl rfl rfl (lb rfl) rfl rfl ?_
      refine AOps.cd hT hA {} (by (repeat (cbv; simp only [f8])); first | done | cbv) (lb rfl) ?_
      refine nT ?_
      refine AWp.seq ?_
      refine AWp.rg hT hA {} (by (repeat (cbv; simp only [f8])); first | done | cbv) (lb rfl) ?_
      refine nT ?_
      refine AWp.ret ?_
      cases soI h
  · replace h := (eR h)
    refine AOps.cc hT hA {} (by cbv) (lb rfl) (R58wb hA e5) rfl (.inl rfl) rfl rfl rfl (lb rfl) rfl rfl ?_
    refine AOps.cd hT hA {} (by cbv) (lb rfl) ?_
    refine nT ?_
    refine AWp.seq ?_
    refine AWp.seq ?_
    have f13 := zeqF hA (a := 50) (b := 0) (c := false) rfl
    refine AWp.rg hT hA {} (by (repeat (cbv; simp only [f13])); first | done | cbv) (lb rfl) ?_
    refine nT ?_
    refine AWp.cdT rfl (by first | rfl | simp only [f13, Bool.not_true, Bool.not_false, cond_true, cond_false]) ?_
    refine AWp.seq ?_
    refine AWp.rg hT hA {} (by (repeat (cbv; simp only [f13])); first | done | cbv) (lb rfl) ?_
    refine nT ?_
    refine AWp.ret ?_
    refine rT ?_
    cases soI h

theorem R70wb {A : Ar} (hA : A = Ar.std) {x1 : Int} {x2 : List D} {x3 : Int} {x4 : List D} {v16 : List D} (h : R70 A x1 x2 x3 x4 = some (.inr (.inl v16))) : ACall Try.prog 70 [(.d (.agg [(.int .i64 x1), (.list 3 x2)])), (.d (.agg [(.int .i64 x3), (.list 3 x4)]))] [] (.tuple [(.ptr 0 0), .nilptr, (.d (.int .i64 50))]) [(.arr 1 v16)] := by
  unfold R70 at h
  refine ACall.enter hT (fn := Try.f70) Try.func70 rfl (by decide) (by simp [Try.f70]) rfl rfl rfl rfl (lb rfl) ?_
  refine AWp.seq ?_
  refine AWp.rg hT hA {} (by cbv) (lb rfl) ?_
  refine nT ?_
  refine AWp.seq ?_
  refine AWp.region ?_
  obtain ⟨q7, e5, h⟩ := bindS h
  rcases q7 with r6 | _
  · replace h := (eL h)
    refine AOps.cc hT hA {} (by cbv) (lb rfl) (R58wa hA e5) rfl (.inl rfl) rfl rfl rfl (lb rfl) rfl rfl ?_
    refine AOps.cd hT hA {} (by cbv) (lb rfl) ?_
    refine nT ?_
    refine AWp.seq ?_
    refine AWp.seq ?_
    have f8 := zeqF hA (a := 0) (b := 0) (c := true) rfl
    refine AWp.rg hT hA {} (by (repeat (cbv; simp only [f8])); first | done | cbv) (lb rfl) ?_
    refine nT ?_
    refine AWp.cdF rfl (by first | rfl | simp only [f8, Bool.not_true, Bool.not_false, cond_true, cond_false]) ?_
    refine AWp.skip ?_
    refine nT ?_
    refine AWp.seq ?_
    refine AWp.region ?_
    obtain ⟨q11, e9, h⟩ := bindS h
    rcases q11 with r10 | _
    · replace h := (eL h)
      refine AOps.cc hT hA {} (by (repeat (cbv; simp only [f8])); first | done | cbv) (lb rfl) (R58awa hA e9) rfl (.inl rfl) rfl rfl rfl (lb rfl) rfl rfl ?_
      refine AOps.cd hT hA {} (by (repeat (cbv; simp only [f8])); first | done | cbv) (lb rfl) ?_
      refine nT ?_
      refine AWp.seq ?_
      refine AWp.rg hT hA {} (by (repeat (cbv; simp only [f8])); first | done | cbv) (lb rfl) ?_
      refine nT ?_
      refine AWp.ret ?_
      cases soI h
    · replace h := (eR h)
      refine AOps.cc hT hA {} (by (repeat (cbv; simp only [f8])); first | done | cbv) (lb rfl) (R58awb hA e9) rfl (.inl rfl) rfl rfl rfl (lb rfl) rfl rfl ?_
      refine AOps.cd hT hA {} (by (repeat (cbv; simp only [f8])); first | done | cbv) (lb rfl) ?_
      refine nT ?_
      refine AWp.seq ?_
      refine AWp.rg hT hA {} (by (repeat (cbv; simp only [f8])); first | done | cbv) (lb rfl) ?_
      refine nT ?_
      refine AWp.ret ?_
      cases soI h
      exact ⟨rfl, rfl, rfl, lb rfl, _, rfl⟩
  · replace h := (eR h)
    refine AOps.cc hT hA {} (by cbv) (lb rfl) (R58wb hA e5) rfl (.inl rfl) rfl rfl rfl (lb rfl) rfl rfl ?_
    refine AOps.cd hT hA {} (by cbv) (lb rfl) ?_
    refine nT ?_
    refine AWp.seq ?_
    refine AWp.seq ?_
    have f13 := zeqF hA (a := 50) (b := 0) (c := false) rfl
    refine AWp.rg hT hA {} (by (repeat (cbv; simp only [f13])); first | done | cbv) (lb rfl) ?_
    refine nT ?_
    refine AWp.cdT rfl (by first | rfl | simp only [f13, Bool.not_true, Bool.not_false, cond_true, cond_false]) ?_
    refine AWp.seq ?_
    refine AWp.rg hT hA {} (by (repeat (cbv; simp only [f13])); first | done | cbv) (lb rfl) ?_
    refine nT ?_
    refine AWp.ret ?_
    refine rT ?_
    cases soI h

theorem R70wc {A : Ar} (hA : A = Ar.std) {x1 : Int} {x2 : List D} {x3 : Int} {x4 : List D} (h : R70 A x1 x2 x3 x4 = some (.inr (.inr ()))) : ACall Try.prog 70 [(.d (.agg [(.int .i64 x1), (.list 3 x2)])), (.d (.agg [(.int .i64 x3), (.list 3 x4)]))] [] (.tuple [.nilptr, .nilptr, (.d (.int .i64 50))]) [] := by
  unfold R70 at h
  refine ACall.enter hT (fn := Try.f70) Try.func70 rfl (by decide) (by simp [Try.f70]) rfl rfl rfl rfl (lb rfl) ?_
  refine AWp.seq ?_
  refine AWp.rg hT hA {} (by cbv) (lb rfl) ?_
  refine nT ?_
  refine AWp.seq ?_
  refine AWp.region ?_
  obtain ⟨q7, e5, h⟩ := bindS h
  rcases q7 with r6 | _
  · replace h := (eL h)
    refine AOps.cc hT hA {} (by cbv) (lb rfl) (R58wa hA e5) rfl (.inl rfl) rfl rfl rfl (lb rfl) rfl rfl ?_
    refine AOps.cd hT hA {} (by cbv) (lb rfl) ?_
    refine nT ?_
    refine AWp.seq ?_
    refine AWp.seq ?_
    have f8 := zeqF hA (a := 0) (b := 0) (c := true) rfl
    refine AWp.rg hT hA {} (by (repeat (cbv; simp only [f8])); first | done | cbv) (lb rfl) ?_
    refine nT ?_
    refine AWp.cdF rfl (by first | rfl | simp only [f8, Bool.not_true, Bool.not_false, cond_true, cond_false]) ?_
    refine AWp.skip ?_
    refine nT ?_
    refine AWp.seq ?_
    refine AWp.region ?_
    obtain ⟨q11, e9, h⟩ := bindS h
    rcases q11 with r10 | _
    · replace h := (eL h)
      refine AOps.cc hT hA {} (by (repeat (cbv; simp only [f8])); first | done | cbv) (lb rfl) (R58awa hA e9) rfl (.inl rfl) rfl rfl rfl (lb rfl) rfl rfl ?_
      refine AOps.cd hT hA {} (by (repeat (cbv; simp only [f8])); first | done | cbv) (lb rfl) ?_
      refine nT ?_
      refine AWp.seq ?_
      refine AWp.rg hT hA {} (by (repeat (cbv; simp only [f8])); first | done | cbv) (lb rfl) ?_
      refine nT ?_
      refine AWp.ret ?_
      cases soI h
    · replace h := (eR h)
      refine AOps.cc hT hA {} (by (repeat (cbv; simp only [f8])); first | done | cbv) (lb rfl) (R58awb hA e9) rfl (.inl rfl) rfl rfl rfl (lb rfl) rfl rfl ?_
      refine AOps.cd hT hA {} (by (repeat (cbv; simp only [f8])); first | done | cbv) (lb rfl) ?_
      refine nT ?_
      refine AWp.seq ?_
      refine AWp.rg hT hA {} (by (repeat (cbv; simp only [f8])); first | done | cbv) (lb rfl) ?_
      refine nT ?_
      refine AWp.ret ?_
      cases soI h
  · replace h := (eR h)
    refine AOps.cc hT hA {} (by cbv) (lb rfl) (R58wb hA e5) rfl (.inl rfl) rfl rfl rfl (lb rfl) rfl rfl ?_
    refine AOps.cd hT hA {} (by cbv) (lb rfl) ?_
    refine nT ?_
    refine AWp.seq ?_
    refine AWp.seq ?_
    have f13 := zeqF hA (a := 50) (b := 0) (c := false) rfl
    refine AWp.rg hT hA {} (by (repeat (cbv; simp only [f13])); first | done | cbv) (lb rfl) ?_
    refine nT ?_
    refine AWp.cdT rfl (by first | rfl | simp only [f13, Bool.not_true, Bool.not_false, cond_true, cond_false]) ?_
    refine AWp.seq ?_
    refine AWp.rg hT hA {} (by (repeat (cbv; simp only [f13])); first | done | cbv) (lb rfl) ?_
    refine nT ?_
    refine AWp.ret ?_
    refine rT ?_
    cases soI h
    exact ⟨rfl, rfl, rfl, lb rfl, _, rfl⟩

theorem R62w {A : Ar} (hA : A = Ar.std) {x1 : List D} {x2 : List D} {v24 : Int} (h : R62 A x1 x2 = some v24) : ACall Try.prog 62 [(.ptr 0 0), (.d (.list 1 x1))] [(.arr 1 x2)] (.d (.int .u8 v24)) [(.arr 1 x2)] := by
  unfold R62 at h
  refine ACall.enter hT (fn := Try.f62) Try.func62 rfl (by decide) (by simp [Try.f62]) rfl rfl rfl rfl (lb rfl) ?_
  refine AWp.seq ?_
  refine AWp.rg hT hA {} (by cbv) (lb rfl) ?_
  refine nT ?_
  refine AWp.seq ?_
  obtain ⟨a3, e4, h⟩ := bindS h
  have f5 := gcI e4
  refine AWp.rg hT hA { tk := [13] } (by (repeat (cbv; simp only [f5])); first | done | cbv) (lb rfl) ?_
  refine nT ?_
  refine AWp.seq ?_
  refine AWp.seq ?_
  refine AWp.rg hT hA {} (by cbv) (lb rfl) ?_
  refine nT ?_
  refine AWp.block ?_
  obtain ⟨xK23, hxK23, K23, hK23, hkK23⟩ := bindK h
  refine AWp.cutX 0 [5] [] 1 (lb rfl) (fun τ => ∃ v22, K23 v22 = some v24 ∧ τ = { env := [(5, (.d (.int .u8 v22)))], heap := [(.arr 1 x2)], n := 28 }) ?_ ?_
  · skip
    refine AWp.iter hxK23 [0, 5, 14, 15, 16] [] 1 (lb rfl) (fun (v13, v14) => { env := [(0, (.ptr 0 0)), (5, (.d (.int .u8 v13))), (14, (.d (.list 1 x1))), (15, (.d (.int .i64 (A.len x1)))), (16, (.d (.int .i64 v14)))], heap := [(.arr 1 x2)], n := 28 }) ⟨rfl, (by cbv)⟩ ?_
    rintro ⟨v13, v14⟩ eK23 hsK23
    dsimp only [R62L0] at hsK23
    refine AWp.seq ?_
    refine AWp.rg hT hA {} (by cbv) (lb rfl) ?_
    refine nT ?_
    refine AWp.seq ?_
    rcases tf (A.zlt v14 (A.len x1)) with c15 | c15
    · replace hsK23 := cT c15 hsK23
      refine AWp.cdT rfl (by first | rfl | simp only [c15, Bool.not_true, Bool.not_false, cond_true, cond_false]) ?_
      refine AWp.skip ?_
      refine nT ?_
      refine AWp.seq ?_
      refine AWp.block ?_
      refine AWp.seq ?_
      obtain ⟨a16, e17, hsK23⟩ := bindS hsK23
      obtain ⟨f18, f19⟩ := gtI e17
      refine AWp.rg hT hA {} (by (repeat (cbv; simp only [c15, f18, f19])); first | done | cbv) (lb rfl) ?_
      refine nT ?_
      refine AWp.region ?_
      obtain ⟨r21, e20, hsK23⟩ := bindS hsK23
      refine AOps.cc hT hA { tk := [25] } (by (repeat (cbv; simp only [c15])); first | done | cbv) (lb rfl) (R68aw hA e20) rfl (.inl rfl) rfl rfl rfl (lb rfl) rfl rfl ?_
      refine AOps.cd hT hA { tk := [25] } (by (repeat (cbv; simp only [c15])); first | done | cbv) (lb rfl) ?_
      refine nB ?_
      refine nT ?_
      refine AWp.rg hT hA {} (by (repeat (cbv; simp only [c15])); first | done | cbv) (lb rfl) ?_
      exact nT ⟨_, (soI hsK23).symm, rfl, (by first | (cbv; done) | ((repeat (cbv; simp only [c15])); first | done | cbv))⟩
    · replace hsK23 := cF c15 hsK23
      refine AWp.cdF rfl (by first | rfl | simp only [c15, Bool.not_true, Bool.not_false, cond_true, cond_false]) ?_
      refine AWp.exit ?_
      refine xT ?_
      refine xT ?_
      refine exL hsK23 fun hx => ?_
      subst hx
      exact oxI ⟨rfl, _, hkK23, (by first | (cbv; done) | ((repeat (cbv; simp only [c15])); first | done | cbv))⟩
  · rintro _ ⟨v22, hkK23, rfl⟩
    have h := (hK23 _ hkK23)
    refine xB ?_
    refine nT ?_
    refine AWp.seq ?_
    refine AWp.rg hT hA { tk := [5, 27] } (by cbv) (lb rfl) ?_
    refine nT ?_
    refine AWp.ret ?_
    cases soI h
    exact ⟨rfl, rfl, rfl, lb rfl, _, rfl⟩

theorem R62aw {A : Ar} (hA : A = Ar.std) {x1 : List D} {x2 : List D} {x3 : List D} {v25 : Int} (h : R62a A x1 x2 x3 = some v25) : ACall Try.prog 62 [(.ptr 1 0), (.d (.list 1 x1))] [(.arr 1 x2), (.arr 1 x3)] (.d (.int .u8 v25)) [(.arr 1 x2), (.arr 1 x3)] := by
  unfold R62a at h
  refine ACall.enter hT (fn := Try.f62) Try.func62 rfl (by decide) (by simp [Try.f62]) rfl rfl rfl rfl (lb rfl) ?_
  refine AWp.seq ?_
  refine AWp.rg hT hA {} (by cbv) (lb rfl) ?_
  refine nT ?_
  refine AWp.seq ?_
  obtain ⟨a4, e5, h⟩ := bindS h
  have f6 := gcI e5
  refine AWp.rg hT hA { tk := [13] } (by (repeat (cbv; simp only [f6])); first | done | cbv) (lb rfl) ?_
  refine nT ?_
  refine AWp.seq ?_
  refine AWp.seq ?_
  refine AWp.rg hT hA {} (by cbv) (lb rfl) ?_
  refine nT ?_
  refine AWp.block ?_
  obtain ⟨xK24, hxK24, K24, hK24, hkK24⟩ := bindK h
  refine AWp.cutX 0 [5] [] 2 (lb rfl) (fun τ => ∃ v23, K24 v23 = some v25 ∧ τ = { env := [(5, (.d (.int .u8 v23)))], heap := [(.arr 1 x2), (.arr 1 x3)], n := 28 }) ?_ ?_
  · skip
    refine AWp.iter hxK24 [0, 5, 14, 15, 16] [] 2 (lb rfl) (fun (v14, v15) => { env := [(0, (.ptr 1 0)), (5, (.d (.int .u8 v14))), (14, (.d (.list 1 x1))), (15, (.d (.int .i64 (A.len x1)))), (16, (.d (.int .i64 v15)))], heap := [(.arr 1 x2), (.arr 1 x3)], n := 28 }) ⟨rfl, (by cbv)⟩ ?_
    rintro ⟨v14, v15⟩ eK24 hsK24
    dsimp only [R62aL0] at hsK24
    refine AWp.seq ?_
    refine AWp.rg hT hA {} (by cbv) (lb rfl) ?_
    refine nT ?_
    refine AWp.seq ?_
    rcases tf (A.zlt v15 (A.len x1)) with c16 | c16
    · replace hsK24 := cT c16 hsK24
      refine AWp.cdT rfl (by first | rfl | simp only [c16, Bool.not_true, Bool.not_false, cond_true, cond_false]) ?_
      refine AWp.skip ?_
      refine nT ?_
      refine AWp.seq ?_
      refine AWp.block ?_
      refine AWp.seq ?_
      obtain ⟨a17, e18, hsK24⟩ := bindS hsK24
      obtain ⟨f19, f20⟩ := gtI e18
      refine AWp.rg hT hA {} (by (repeat (cbv; simp only [c16, f19, f20])); first | done | cbv) (lb rfl) ?_
      refine nT ?_
      refine AWp.region ?_
      obtain ⟨r22, e21, hsK24⟩ := bindS hsK24
      refine AOps.cc hT hA { tk := [25] } (by (repeat (cbv; simp only [c16])); first | done | cbv) (lb rfl) (R68cw hA e21) rfl (.inl rfl) rfl rfl rfl (lb rfl) rfl rfl ?_
      refine AOps.cd hT hA { tk := [25] } (by (repeat (cbv; simp only [c16])); first | done | cbv) (lb rfl) ?_
      refine nB ?_
      refine nT ?_
      refine AWp.rg hT hA {} (by (repeat (cbv; simp only [c16])); first | done | cbv) (lb rfl) ?_
      exact nT ⟨_, (soI hsK24).symm, rfl, (by first | (cbv; done) | ((repeat (cbv; simp only [c16])); first | done | cbv))⟩
    · replace hsK24 := cF c16 hsK24
      refine AWp.cdF rfl (by first | rfl | simp only [c16, Bool.not_true, Bool.not_false, cond_true, cond_false]) ?_
      refine AWp.exit ?_
      refine xT ?_
      refine xT ?_
      refine exL hsK24 fun hx => ?_
      subst hx
      exact oxI ⟨rfl, _, hkK24, (by first | (cbv; done) | ((repeat (cbv; simp only [c16])); first | done | cbv))⟩
  · rintro _ ⟨v23, hkK24, rfl⟩
    have h := (hK24 _ hkK24)
    refine xB ?_
    refine nT ?_
    refine AWp.seq ?_
    refine AWp.rg hT hA { tk := [5, 27] } (by cbv) (lb rfl) ?_
    refine nT ?_
    refine AWp.ret ?_
    cases soI h
    exact ⟨rfl, rfl, rfl, lb rfl, _, rfl⟩

theorem R67w {A : Ar} (hA : A = Ar.std) {x1 : List D} {v12 : List D} (h : R67 A x1 = some v12) : ACall Try.prog 67 [(.d (.list 1 x1))] [] (.own 1 v12) [] := by
  unfold R67 at h
  refine ACall.enter hT (fn := Try.f67) Try.func67 rfl (by decide) (by simp [Try.f67]) rfl rfl rfl rfl (lb rfl) ?_
  refine AWp.seq ?_
  refine AWp.rg hT hA {} (by cbv) (lb rfl) ?_
  refine nT ?_
  refine AWp.seq ?_
  refine AWp.seq ?_
  rcases tf (A.zlt 0 (A.len x1)) with c2 | c2
  · replace h := cT c2 h
    refine AWp.rg hT hA {} (by (repeat (cbv; simp only [c2])); first | done | cbv) (lb rfl) ?_
    refine nT ?_
    refine AWp.cond (b := false) (by cbv; simp only [c2]) ?_
    rw [if_neg Bool.false_ne_true]
    refine AWp.skip ?_
    refine nT ?_
    refine AWp.seq ?_
    obtain ⟨l4, e5, h⟩ := bindS h
    obtain ⟨f6, f7⟩ := apI e5
    refine AWp.rg hT hA { tk := [7] } (by (repeat (cbv; simp only [c2, f6, f7])); first | done | cbv) (lb rfl) ?_
    refine nT ?_
    refine AWp.ret ?_
    cases soI h
    exact ⟨rfl, rfl, rfl, lb rfl, _, rfl⟩
  · replace h := cF c2 h
    refine AWp.rg hT hA {} (by (repeat (cbv; simp only [c2])); first | done | cbv) (lb rfl) ?_
    refine nT ?_
    obtain ⟨hc3a, hc3b⟩ := bothI h
    refine AWp.condAny (by cbv; simp only [c2]) ?_ ?_
    · replace h := hc3a
      refine AWp.seq ?_
      refine AWp.rg hT hA {} (by (repeat (cbv; simp only [c2])); first | done | cbv) (lb rfl) ?_
      refine nT ?_
      refine AWp.ret ?_
      refine rT ?_
      cases soI h
      exact ⟨rfl, rfl, rfl, lb rfl, _, rfl⟩
    · replace h := hc3b
      refine AWp.skip ?_
      refine nT ?_
      refine AWp.seq ?_
      obtain ⟨l8, e9, h⟩ := bindS h
      obtain ⟨f10, f11⟩ := apI e9
      refine AWp.rg hT hA { tk := [7] } (by (repeat (cbv; simp only [c2, f10, f11])); first | done | cbv) (lb rfl) ?_
      refine nT ?_
      refine AWp.ret ?_
      cases soI h
      exact ⟨rfl, rfl, rfl, lb rfl, _, rfl⟩

theorem R23w {A : Ar} (hA : A = Ar.std) {x1 : Int} {x2 : List D} {x3 : Int} {x4 : List D} {v237 : List D} {v238 : Int} (h : R23 A x1 x2 x3 x4 = some (v237, v238)) : ACall Try.prog 23 [(.d (.agg [(.int .i64 x1), (.list 3 x2)])), (.d (.agg [(.int .i64 x3), (.list 3 x4)]))] [] (.tuple [(.d (.list 1 v237)), (.d (.int .i64 v238))]) [] := by
  unfold R23 at h
  refine ACall.enter hT (fn := Try.f23) Try.func23 rfl (by decide) (by simp [Try.f23]) rfl rfl rfl rfl (lb rfl) ?_
  refine AWp.seq ?_
  refine AWp.rg hT hA {} (by cbv) (lb rfl) ?_
  refine nT ?_
  refine AWp.seq ?_
  refine AWp.region ?_
  obtain ⟨q9, e5, h⟩ := bindS h
  rcases q9 with ⟨r6, r7⟩ | r8 | _
  · replace h := (eL h)
    refine AOps.cc hT hA {} (by cbv) (lb rfl) (R70wa hA e5) rfl (.inl rfl) rfl rfl rfl (lb rfl) rfl rfl ?_
    refine AOps.cd hT hA {} (by cbv) (lb rfl) ?_
    refine nT ?_
    refine AWp.seq ?_
    refine AWp.seq ?_
    have f10 := zeqF hA (a := 0) (b := 0) (c := true) rfl
    refine AWp.rg hT hA {} (by (repeat (cbv; simp only [f10])); first | done | cbv) (lb rfl) ?_
    refine nT ?_
    refine AWp.cdF rfl (by first | rfl | simp only [f10, Bool.not_true, Bool.not_false, cond_true, cond_false]) ?_
    refine AWp.skip ?_
    refine nT ?_
    refine AWp.seq ?_
    refine AWp.region ?_
    obtain ⟨r12, e11, h⟩ := bindS h
    refine AOps.cc hT hA { tk := [30], nl := [30] } (by (repeat (cbv; simp only [f10])); first | done | cbv) (lb rfl) (R62w hA e11) rfl (.inr rfl) rfl rfl rfl (lb rfl) rfl rfl ?_
    obtain ⟨r14, e13, h⟩ := bindS h
    refine AOps.cc hT hA { tk := [30], nl := [30] } (by (repeat (cbv; simp only [f10])); first | done | cbv) (lb rfl) (R62aw hA e13) rfl (.inl rfl) rfl rfl rfl (lb rfl) rfl rfl ?_
    refine AOps.cd hT hA { tk := [30], nl := [30] } (by (repeat (cbv; simp only [f10])); first | done | cbv) (lb rfl) ?_
    refine nT ?_
    refine AWp.seq ?_
    refine AWp.rg hT hA {} (by (repeat (cbv; simp only [f10])); first | done | cbv) (lb rfl) ?_
    refine nT ?_
    refine AWp.seq ?_
    refine AWp.seq ?_
    refine AWp.rg hT hA { tk := [39], arr := [11] } (by (repeat (cbv; simp only [f10])); first | done | cbv) (lb rfl) ?_
    refine nT ?_
    refine AWp.block ?_
    obtain ⟨xK234, hxK234, K234, hK234, hkK234⟩ := bindK h
    refine AWp.cutX 0 [] [] 3 (lb rfl) (fun τ => ∃ v231, K234 (.inl v231) = some (v237, v238) ∧ τ = { env := [], heap := [(.arr 1 r6), (.arr 1 r7), (.map true [.int .u8, .int .u8] v231)], n := 98 }) ?_ ?_
    · skip
      refine AWp.iter hxK234 [6, 7, 10, 11] [1000011] 3 (lb rfl) (fun (v158, v159) => { env := [(6, (.ptr 0 0)), (7, (.ptr 1 0)), (10, (.map 2)), (11, (.tail 3 v158))], heap := [(.arr 1 r6), (.arr 1 r7), (.map true [.int .u8, .int .u8] v159)], n := 98 }) ⟨rfl, (by first | (cbv; done) | ((repeat (cbv; simp only [f10])); first | done | cbv))⟩ ?_
      rintro ⟨v158, v159⟩ eK234 hsK234
      dsimp only [R23L1] at hsK234
      refine AWp.seq ?_
      refine AWp.seq ?_
      refine AWp.rg hT hA {} (by cbv) (lb rfl) ?_
      refine nT ?_
      rcases tf (A.zlt 0 (A.len v158)) with c160 | c160
      · replace hsK234 := cT c160 hsK234
        refine AWp.cdT rfl (by first | rfl | simp only [c160, Bool.not_true, Bool.not_false, cond_true, cond_false]) ?_
        refine AWp.skip ?_
        refine nT ?_
        refine AWp.seq ?_
        refine AWp.block ?_
        refine AWp.seq ?_
        obtain ⟨⟨a161, a162, a163⟩, e164, hsK234⟩ := bindS hsK234
        have f165 := gcI e164
        refine AWp.rg hT hA { tk := [47] } (by (repeat (cbv; simp only [c160, f165])); first | done | cbv) (lb rfl) ?_
        refine nT ?_
        refine AWp.seq ?_
        refine AWp.seq ?_
        refine AWp.rg hT hA {} (by (repeat (cbv; simp only [c160])); first | done | cbv) (lb rfl) ?_
        refine nT ?_
        rcases tf (A.zeq a162 0) with c166 | c166
        · replace hsK234 := cT c166 hsK234
          refine AWp.cdT rfl (by first | rfl | simp only [c160, c166, Bool.not_true, Bool.not_false, cond_true, cond_false]) ?_
          refine AWp.seq ?_
          refine AWp.rg hT hA {} (by (repeat (cbv; simp only [c160, c166])); first | done | cbv) (lb rfl) ?_
          refine nT ?_
          refine AWp.ret ?_
          refine rT ?_
          refine rB ?_
          refine rT ?_
          refine rT ?_
          refine exL hsK234 fun hx => ?_
          subst hx
          refine oxR ?_
          replace hkK234 := (eR (hK234 _ hkK234))
          refine rB ?_
          refine rT ?_
          cases soI hkK234
          exact ⟨rfl, rfl, rfl, lb rfl, _, rfl⟩
        · replace hsK234 := cF c166 hsK234
          refine AWp.cdF rfl (by first | rfl | simp only [c160, c166, Bool.not_true, Bool.not_false, cond_true, cond_false]) ?_
          refine AWp.skip ?_
          refine nT ?_
          refine AWp.seq ?_
          refine AWp.rg hT hA {} (by (repeat (cbv; simp only [c160, c166])); first | done | cbv) (lb rfl) ?_
          refine nT ?_
          refine AWp.block ?_
          obtain ⟨xK224, hxK224, K224, hK224, hkK224⟩ := bindK hsK234
          refine AWp.cutX 2 [6, 7, 10, 11] [] 3 (lb rfl) (fun τ => ∃ v222 v223, K224 (v222, v223) = some eK234 ∧ τ = { env := [(6, (.ptr 0 0)), (7, (.ptr 1 0)), (10, (.map 2)), (11, (.tail 3 v222))], heap := [(.arr 1 r6), (.arr 1 r7), (.map true [.int .u8, .int .u8] v223)], n := 98 }) ?_ ?_
          · skip
            refine AWp.iter hxK224 [6, 7, 10, 11, 12, 13] [] 3 (lb rfl) (fun (v193, v194, v195) => { env := [(6, (.ptr 0 0)), (7, (.ptr 1 0)), (10, (.map 2)), (11, (.tail 3 v193)), (12, (.lbox [(.d (.int .u8 a161)), (.d (.int .u8 a162)), (.d (.list 1 a163))])), (13, (.d (.int .i64 v194)))], heap := [(.arr 1 r6), (.arr 1 r7), (.map true [.int .u8, .int .u8] v195)], n := 98 }) ⟨rfl, (by first | (cbv; done) | ((repeat (cbv; simp only [c160, c166])); first | done | cbv))⟩ ?_
            rintro ⟨v193, v194, v195⟩ eK224 hsK224
            dsimp only [R23L0] at hsK224
            refine AWp.seq ?_
            refine AWp.seq ?_
            refine AWp.rg hT hA {} (by cbv) (lb rfl) ?_
            refine nT ?_
            rcases tf (A.zle v194 3) with c196 | c196
            · replace hsK224 := cT c196 hsK224
              refine AWp.cdT rfl (by first | rfl | simp only [c196, Bool.not_true, Bool.not_false, cond_true, cond_false]) ?_
              refine AWp.skip ?_
              refine nT ?_
              refine AWp.seq ?_
              refine AWp.block ?_
              refine AWp.seq ?_
              refine AWp.regionDraw rfl (lb rfl) ?_
              obtain ⟨r198, e197, hsK224⟩ := bindS hsK224
              refine DOps.cp hT hA { tk := [77] } rfl (by (repeat (cbv; simp only [c196])); first | done | cbv) (R68aw hA e197) rfl rfl rfl rfl (lb rfl) rfl rfl ?_
              obtain ⟨r200, e199, hsK224⟩ := bindS hsK224
              refine DOps.cp hT hA { tk := [77] } rfl (by (repeat (cbv; simp only [c196])); first | done | cbv) (R68cw hA e199) rfl rfl rfl rfl (lb rfl) rfl rfl ?_
              obtain ⟨r202, e201, hsK224⟩ := bindS hsK224
              refine DOps.c0 hT hA { tk := [77] } rfl (by (repeat (cbv; simp only [c196])); first | done | cbv) (R67w hA e201) rfl rfl (lb rfl) rfl rfl ?_
              obtain ⟨l203, e204, hsK224⟩ := bindS hsK224
              obtain ⟨f205, f206⟩ := apI e204
              refine DOps.cd hT hA { tk := [77] } rfl (by (repeat (cbv; simp only [c196, f205, f206])); first | done | cbv) (by kernel_rfl) ?_
              refine nT ?_
              refine AWp.seq ?_
              refine AWp.rg hT hA { tk := [82] } (by (repeat (cbv; simp only [c196])); first | done | cbv) (lb rfl) ?_
              refine nT ?_
              refine AWp.seq ?_
              obtain ⟨v212, hvK213, hsK224⟩ := bindS hsK224
              refine AWp.cutN [6, 7, 10, 11, 12, 13, 14, 15, 91] [] 3 (lb rfl) (fun τ => τ = { env := [(6, (.ptr 0 0)), (7, (.ptr 1 0)), (10, (.map 2)), (11, (.tail 3 v193)), (12, (.lbox [(.d (.int .u8 a161)), (.d (.int .u8 a162)), (.d (.list 1 a163))])), (13, (.d (.int .i64 v194))), (14, (.lbox [(.d (.int .u8 r198)), (.d (.int .u8 r200)), (.d (.list 1 l203))])), (15, (.lbox [(.d (.int .u8 r198)), (.d (.int .u8 r200))])), (91, (.d (.bool v212)))], heap := [(.arr 1 r6), (.arr 1 r7), (.map true [.int .u8, .int .u8] v195)], n := 98 }) ?_ ?_
              · skip
                rcases tf (A.zeq r198 0) with c207 | c207
                · replace hvK213 := cT c207 hvK213
                  refine AWp.rg hT hA {} (by (repeat (cbv; simp only [c196, c207])); first | done | cbv) (lb rfl) ?_
                  cases soI hvK213
                  exact oNi ⟨rfl, (by first | (cbv; done) | ((repeat (cbv; simp only [c196, c207])); first | done | cbv))⟩
                · replace hvK213 := cF c207 hvK213
                  obtain ⟨o211, e209, hvK213⟩ := bindS hvK213
                  rcases o211 with _ | a208
                  · have f210 := lkN e209
                    refine AWp.rg hT hA {} (by (repeat (cbv; simp only [c196, c207, f210])); first | done | cbv) (lb rfl) ?_
                    cases soI hvK213
                    exact oNi ⟨rfl, (by first | (cbv; done) | ((repeat (cbv; simp only [c196, c207])); first | done | cbv))⟩
                  · have f210 := lkS e209
                    refine AWp.rg hT hA {} (by (repeat (cbv; simp only [c196, c207, f210])); first | done | cbv) (lb rfl) ?_
                    cases soI hvK213
                    exact oNi ⟨rfl, (by first | (cbv; done) | ((repeat (cbv; simp only [c196, c207])); first | done | cbv))⟩
              · rintro _ rfl
                refine nT ?_
                obtain ⟨⟨v219, v220⟩, hvK221, hsK224⟩ := bindS hsK224
                refine AWp.cutN [6, 7, 10, 11, 12, 13] [] 3 (lb rfl) (fun τ => τ = { env := [(6, (.ptr 0 0)), (7, (.ptr 1 0)), (10, (.map 2)), (11, (.tail 3 v219)), (12, (.lbox [(.d (.int .u8 a161)), (.d (.int .u8 a162)), (.d (.list 1 a163))])), (13, (.d (.int .i64 v194)))], heap := [(.arr 1 r6), (.arr 1 r7), (.map true [.int .u8, .int .u8] v220)], n := 98 }) ?_ ?_
                · skip
                  rcases tf v212 with c214 | c214
                  · replace hvK221 := cT c214 hvK221
                    refine AWp.cdT rfl (by first | rfl | simp only [c214, Bool.not_true, Bool.not_false, cond_true, cond_false]) ?_
                    refine AWp.seq ?_
                    refine AWp.rg hT hA {} (by (repeat (cbv; simp only [c214])); first | done | cbv) (lb rfl) ?_
                    refine nT ?_
                    obtain ⟨l215, e216, hvK221⟩ := bindS hvK221
                    obtain ⟨f217, f218⟩ := apI e216
                    refine AWp.rg hT hA { tk := [11, 97], arr := [11, 94, 97] } (by (repeat (cbv; simp only [c214, f217, f218])); first | done | cbv) (lb rfl) ?_
                    cases soI hvK221
                    exact oNi ⟨rfl, (by first | (cbv; done) | ((repeat (cbv; simp only [c214])); first | done | cbv))⟩
                  · replace hvK221 := cF c214 hvK221
                    refine AWp.cdF rfl (by first | rfl | simp only [c214, Bool.not_true, Bool.not_false, cond_true, cond_false]) ?_
                    refine AWp.skip ?_
                    cases soI hvK221
                    exact oNi ⟨rfl, (by first | (cbv; done) | ((repeat (cbv; simp only [c214])); first | done | cbv))⟩
                · rintro _ rfl
                  refine nB ?_
                  refine nT ?_
                  refine AWp.rg hT hA {} (by cbv) (lb rfl) ?_
                  exact nT ⟨_, (soI hsK224).symm, rfl, (by cbv)⟩
            · replace hsK224 := cF c196 hsK224
              refine AWp.cdF rfl (by first | rfl | simp only [c196, Bool.not_true, Bool.not_false, cond_true, cond_false]) ?_
              refine AWp.exit ?_
              refine xT ?_
              refine xT ?_
              refine exL hsK224 fun hx => ?_
              subst hx
              exact oxI ⟨rfl, _, _, hkK224, (by first | (cbv; done) | ((repeat (cbv; simp only [c196])); first | done | cbv))⟩
          · rintro _ ⟨v222, v223, hkK224, rfl⟩
            have hsK234 := (hK224 _ hkK224)
            refine xB ?_
            refine nB ?_
            refine nT ?_
            obtain ⟨l225, e226, hsK234⟩ := bindS hsK234
            obtain ⟨f227, f228, f229, f230⟩ := slI e226
            refine AWp.rg hT hA { tk := [11, 44], arr := [11, 43, 44] } (by (repeat (cbv; simp only [f227, f228, f229, f230])); first | done | cbv) (lb rfl) ?_
            exact nT ⟨_, (soI hsK234).symm, rfl, (by cbv)⟩
      · replace hsK234 := cF c160 hsK234
        refine AWp.cdF rfl (by first | rfl | simp only [c160, Bool.not_true, Bool.not_false, cond_true, cond_false]) ?_
        refine AWp.exit ?_
        refine xT ?_
        refine xT ?_
        refine exL hsK234 fun hx => ?_
        subst hx
        exact oxI ⟨rfl, _, hkK234, (by first | (cbv; done) | ((repeat (cbv; simp only [c160])); first | done | cbv))⟩
    · rintro _ ⟨v231, hkK234, rfl⟩
      have h := (eL (hK234 _ hkK234))
      refine xB ?_
      refine nT ?_
      refine AWp.seq ?_
      refine AWp.rg hT hA {} (by cbv) (lb rfl) ?_
      refine nT ?_
      refine AWp.ret ?_
      cases soI h
      exact ⟨rfl, rfl, rfl, lb rfl, _, rfl⟩
  · replace h := (eL (eR h))
    refine AOps.cc hT hA {} (by cbv) (lb rfl) (R70wb hA e5) rfl (.inl rfl) rfl rfl rfl (lb rfl) rfl rfl ?_
    refine AOps.cd hT hA {} (by cbv) (lb rfl) ?_
    refine nT ?_
    refine AWp.seq ?_
    refine AWp.seq ?_
    have f235 := zeqF hA (a := 50) (b := 0) (c := false) rfl
    refine AWp.rg hT hA {} (by (repeat (cbv; simp only [f235])); first | done | cbv) (lb rfl) ?_
    refine nT ?_
    refine AWp.cdT rfl (by first | rfl | simp only [f235, Bool.not_true, Bool.not_false, cond_true, cond_false]) ?_
    refine AWp.seq ?_
    refine AWp.rg hT hA {} (by (repeat (cbv; simp only [f235])); first | done | cbv) (lb rfl) ?_
    refine nT ?_
    refine AWp.ret ?_
    refine rT ?_
    cases soI h
    exact ⟨rfl, rfl, rfl, lb rfl, _, rfl⟩
  · replace h := (eR (eR h))
    refine AOps.cc hT hA {} (by cbv) (lb rfl) (R70wc hA e5) rfl (.inl rfl) rfl rfl rfl (lb rfl) rfl rfl ?_
    refine AOps.cd hT hA {} (by cbv) (lb rfl) ?_
    refine nT ?_
    refine AWp.seq ?_
    refine AWp.seq ?_
    have f236 := zeqF hA (a := 50) (b := 0) (c := false) rfl
    refine AWp.rg hT hA {} (by (repeat (cbv; simp only [f236])); first | done | cbv) (lb rfl) ?_
    refine nT ?_
    refine AWp.cdT rfl (by first | rfl | simp only [f236, Bool.not_true, Bool.not_false, cond_true, cond_false]) ?_
    refine AWp.seq ?_
    refine AWp.rg hT hA {} (by (repeat (cbv; simp only [f236])); first | done | cbv) (lb rfl) ?_
    refine nT ?_
    refine AWp.ret ?_
    refine rT ?_
    cases soI h
    exact ⟨rfl, rfl, rfl, lb rfl, _, rfl⟩

theorem R27w {A : Ar} (hA : A = Ar.std) {x1 : List D} {x2 : List D} {v26 : Bool} (h : R27 A x1 x2 = some v26) : ACall Try.prog 27 [(.d (.list 1 x1)), (.d (.list 1 x2))] [] (.d (.bool v26)) [] := by
  unfold R27 at h
  refine ACall.enter hT (fn := Try.f27) Try.func27 rfl (by decide) (by simp [Try.f27]) rfl rfl rfl rfl (lb rfl) ?_
  refine AWp.seq ?_
  refine AWp.rg hT hA {} (by cbv) (lb rfl) ?_
  refine nT ?_
  refine AWp.seq ?_
  refine AWp.seq ?_
  refine AWp.rg hT hA {} (by cbv) (lb rfl) ?_
  refine nT ?_
  rcases tf (A.zeq (A.len x1) (A.len x2)) with c3 | c3
  · replace h := cT c3 h
    refine AWp.cdF rfl (by first | rfl | simp only [c3, Bool.not_true, Bool.not_false, cond_true, cond_false]) ?_
    refine AWp.skip ?_
    refine nT ?_
    refine AWp.seq ?_
    refine AWp.seq ?_
    refine AWp.rg hT hA {} (by (repeat (cbv; simp only [c3])); first | done | cbv) (lb rfl) ?_
    refine nT ?_
    refine AWp.block ?_
    obtain ⟨xK25, hxK25, K25, hK25, hkK25⟩ := bindK h
    refine AWp.cutX 0 [] [] 0 (lb rfl) (fun τ => K25 (.inl ()) = some v26 ∧ τ = { env := [], heap := [], n := 26 }) ?_ ?_
    · skip
      refine AWp.iter hxK25 [0, 1, 12, 13] [] 0 (lb rfl) (fun v14 => { env := [(0, (.d (.list 1 x1))), (1, (.d (.list 1 x2))), (12, (.d (.int .i64 (A.len x1)))), (13, (.d (.int .i64 v14)))], heap := [], n := 26 }) ⟨rfl, (by first | (cbv; done) | ((repeat (cbv; simp only [c3])); first | done | cbv))⟩ ?_
      rintro v14 eK25 hsK25
      dsimp only [R27L0] at hsK25
      refine AWp.seq ?_
      refine AWp.rg hT hA {} (by cbv) (lb rfl) ?_
      refine nT ?_
      refine AWp.seq ?_
      rcases tf (A.zlt v14 (A.len x1)) with c15 | c15
      · replace hsK25 := cT c15 hsK25
        refine AWp.cdT rfl (by first | rfl | simp only [c15, Bool.not_true, Bool.not_false, cond_true, cond_false]) ?_
        refine AWp.skip ?_
        refine nT ?_
        refine AWp.seq ?_
        refine AWp.block ?_
        refine AWp.seq ?_
        refine AWp.rg hT hA {} (by (repeat (cbv; simp only [c15])); first | done | cbv) (lb rfl) ?_
        refine nT ?_
        refine AWp.seq ?_
        obtain ⟨a16, e17, hsK25⟩ := bindS hsK25
        obtain ⟨f18, f19⟩ := gtI e17
        obtain ⟨a20, e21, hsK25⟩ := bindS hsK25
        obtain ⟨f22, f23⟩ := gtI e21
        refine AWp.rd hT hA {} rfl (by (repeat (cbv; simp only [c15, f18, f19, f22, f23])); first | done | cbv) (by kernel_rfl) (lb rfl) ?_
        refine nT ?_
        rcases tf (A.zeq a16 a20) with c24 | c24
        · replace hsK25 := cT c24 hsK25
          refine AWp.cdF rfl (by first | rfl | simp only [c15, c24, Bool.not_true, Bool.not_false, cond_true, cond_false]) ?_
          refine AWp.skip ?_
          refine nB ?_
          refine nT ?_
          refine AWp.rg hT hA {} (by (repeat (cbv; simp only [c15, c24])); first | done | cbv) (lb rfl) ?_
          exact nT ⟨_, (soI hsK25).symm, rfl, (by first | (cbv; done) | ((repeat (cbv; simp only [c15, c24])); first | done | cbv))⟩
        · replace hsK25 := cF c24 hsK25
          refine AWp.cdT rfl (by first | rfl | simp only [c15, c24, Bool.not_true, Bool.not_false, cond_true, cond_false]) ?_
          refine AWp.seq ?_
          refine AWp.rg hT hA {} (by (repeat (cbv; simp only [c15, c24])); first | done | cbv) (lb rfl) ?_
          refine nT ?_
          refine AWp.ret ?_
          refine rB ?_
          refine rT ?_
          refine rT ?_
          refine exL hsK25 fun hx => ?_
          subst hx
          refine oxR ?_
          replace hkK25 := (eR (hK25 _ hkK25))
          refine rB ?_
          refine rT ?_
          cases soI hkK25
          exact ⟨rfl, rfl, rfl, lb rfl, _, rfl⟩
      · replace hsK25 := cF c15 hsK25
        refine AWp.cdF rfl (by first | rfl | simp only [c15, Bool.not_true, Bool.not_false, cond_true, cond_false]) ?_
        refine AWp.exit ?_
        refine xT ?_
        refine xT ?_
        refine exL hsK25 fun hx => ?_
        subst hx
        exact oxI ⟨rfl, hkK25, (by first | (cbv; done) | ((repeat (cbv; simp only [c15])); first | done | cbv))⟩
    · rintro _ ⟨hkK25, rfl⟩
      have h := (eL (hK25 _ hkK25))
      refine xB ?_
      refine nT ?_
      refine AWp.seq ?_
      refine AWp.rg hT hA {} (by cbv) (lb rfl) ?_
      refine nT ?_
      refine AWp.ret ?_
      cases soI h
      exact ⟨rfl, rfl, rfl, lb rfl, _, rfl⟩
  · replace h := cF c3 h
    refine AWp.cdT rfl (by first | rfl | simp only [c3, Bool.not_true, Bool.not_false, cond_true, cond_false]) ?_
    refine AWp.seq ?_
    refine AWp.rg hT hA {} (by (repeat (cbv; simp only [c3])); first | done | cbv) (lb rfl) ?_
    refine nT ?_
    refine AWp.ret ?_
    refine rT ?_
    cases soI h
    exact ⟨rfl, rfl, rfl, lb rfl, _, rfl⟩

theorem R17w {A : Ar} (hA : A = Ar.std) {v9 : Bool} (h : R17 A = some v9) : ACall Try.prog 17 [] [] (.d (.bool v9)) [] := by
  unfold R17 at h
  refine ACall.enter hT (fn := Try.f17) Try.func17 rfl (by decide) (by simp [Try.f17]) rfl rfl rfl rfl (lb rfl) ?_
  refine AWp.seq ?_
  refine AWp.rg hT hA {} (by cbv) (lb rfl) ?_
  refine nT ?_
  refine AWp.seq ?_
  refine AWp.rg hT hA { tk := [8] } (by cbv) (lb rfl) ?_
  refine nT ?_
  refine AWp.seq ?_
  refine AWp.rg hT hA { tk := [13] } (by cbv) (lb rfl) ?_
  refine nT ?_
  refine AWp.seq ?_
  refine AWp.region ?_
  obtain ⟨⟨r2, r3⟩, e1, h⟩ := bindS h
  refine AOps.cc hT hA {} (by cbv) (lb rfl) (R23w hA e1) rfl (.inl rfl) rfl rfl rfl (lb rfl) rfl rfl ?_
  refine AOps.cd hT hA {} (by cbv) (lb rfl) ?_
  refine nT ?_
  refine AWp.seq ?_
  obtain ⟨v7, hvK8, h⟩ := bindS h
  refine AWp.cutN [0] [] 0 (lb rfl) (fun τ => τ = { env := [(0, (.d (.bool v7)))], heap := [], n := 27 }) ?_ ?_
  · skip
    refine AWp.region ?_
    rcases tf (A.zeq r3 0) with c4 | c4
    · replace hvK8 := cT c4 hvK8
      obtain ⟨r6, e5, hvK8⟩ := bindS hvK8
      refine AOps.cc hT hA { tk := [26] } (by (repeat (cbv; simp only [c4])); first | done | cbv) (lb rfl) (R27w hA e5) rfl (.inl rfl) rfl rfl rfl (lb rfl) rfl rfl ?_
      refine AOps.cd hT hA { tk := [26] } (by (repeat (cbv; simp only [c4])); first | done | cbv) (lb rfl) ?_
      cases soI hvK8
      exact oNi ⟨rfl, (by first | (cbv; done) | ((repeat (cbv; simp only [c4])); first | done | cbv))⟩
    · replace hvK8 := cF c4 hvK8
      refine AOps.cd hT hA { tk := [26] } (by (repeat (cbv; simp only [c4])); first | done | cbv) (lb rfl) ?_
      cases soI hvK8
      exact oNi ⟨rfl, (by first | (cbv; done) | ((repeat (cbv; simp only [c4])); first | done | cbv))⟩
  · rintro _ rfl
    refine nT ?_
    refine AWp.ret ?_
    cases soI h
    exact ⟨rfl, rfl, rfl, lb rfl, _, rfl⟩

theorem R61w {A : Ar} (hA : A = Ar.std) {x1 : Int} {v4 : Bool} (h : R61 A x1 = some v4) : ACall Try.prog 61 [(.d (.int .i64 x1))] [] (.d (.bool v4)) [] := by
  unfold R61 at h
  refine ACall.enter hT (fn := Try.f61) Try.func61 rfl (by decide) (by simp [Try.f61]) rfl rfl rfl rfl (lb rfl) ?_
  refine AWp.seq ?_
  refine AWp.rg hT hA {} (by cbv) (lb rfl) ?_
  refine nT ?_
  refine AWp.seq ?_
  refine AWp.region ?_
  obtain ⟨r3, e2, h⟩ := bindS h
  refine AOps.cc hT hA { tk := [4] } (by cbv) (lb rfl) (R65w hA e2) rfl (.inl rfl) rfl rfl rfl (lb rfl) rfl rfl ?_
  refine AOps.cd hT hA { tk := [4] } (by cbv) (lb rfl) ?_
  refine nT ?_
  refine AWp.ret ?_
  cases soI h
  exact ⟨rfl, rfl, rfl, lb rfl, _, rfl⟩

theorem R77w {A : Ar} (hA : A = Ar.std) {x1 : Int} {x2 : List D} {x3 : Int} {v7 : Bool} (h : R77 A x1 x2 x3 = some v7) : ACall Try.prog 77 [(.d (.agg [(.int .i64 x1), (.list 3 x2)])), (.d (.int .i64 x3))] [] (.d (.bool v7)) [] := by
  unfold R77 at h
  refine ACall.enter hT (fn := Try.f77) Try.func77 rfl (by decide) (by simp [Try.f77]) rfl rfl rfl rfl (lb rfl) ?_
  refine AWp.seq ?_
  refine AWp.rg hT hA {} (by cbv) (lb rfl) ?_
  refine nT ?_
  refine AWp.seq ?_
  obtain ⟨v5, hvK6, h⟩ := bindS h
  refine AWp.cutN [4] [] 0 (lb rfl) (fun τ => τ = { env := [(4, (.d (.bool v5)))], heap := [], n := 13 }) ?_ ?_
  · skip
    rcases tf (A.zle 0 x3) with c4 | c4
    · replace hvK6 := cT c4 hvK6
      refine AWp.rg hT hA { tk := [12] } (by (repeat (cbv; simp only [c4])); first | done | cbv) (lb rfl) ?_
      cases soI hvK6
      exact oNi ⟨rfl, (by first | (cbv; done) | ((repeat (cbv; simp only [c4])); first | done | cbv))⟩
    · replace hvK6 := cF c4 hvK6
      refine AWp.rg hT hA { tk := [12] } (by (repeat (cbv; simp only [c4])); first | done | cbv) (lb rfl) ?_
      cases soI hvK6
      exact oNi ⟨rfl, (by first | (cbv; done) | ((repeat (cbv; simp only [c4])); first | done | cbv))⟩
  · rintro _ rfl
    refine nT ?_
    refine AWp.ret ?_
    cases soI h
    exact ⟨rfl, rfl, rfl, lb rfl, _, rfl⟩

theorem R34w {A : Ar} (hA : A = Ar.std) {x1 : Int} {x2 : List D} {v92 : Bool} (h : R34 A x1 x2 = some v92) : ACall Try.prog 34 [(.d (.agg [(.int .i64 x1), (.list 3 x2)]))] [] (.d (.bool v92)) [] := by
  unfold R34 at h
  refine ACall.enter hT (fn := Try.f34) Try.func34 rfl (by decide) (by simp [Try.f34]) rfl rfl rfl rfl (lb rfl) ?_
  refine AWp.seq ?_
  refine AWp.rg hT hA {} (by cbv) (lb rfl) ?_
  refine nT ?_
  refine AWp.seq ?_
  refine AWp.seq ?_
  obtain ⟨v5, hvK6, h⟩ := bindS h
  refine AWp.cutN [1, 20] [] 0 (lb rfl) (fun τ => τ = { env := [(1, (.lbox [(.d (.int .i64 x1)), (.d (.list 3 x2))])), (20, (.d (.bool v5)))], heap := [], n := 65 }) ?_ ?_
  · skip
    rcases tf (A.zlt x1 1) with c3 | c3
    · replace hvK6 := cT c3 hvK6
      refine AWp.rg hT hA {} (by (repeat (cbv; simp only [c3])); first | done | cbv) (lb rfl) ?_
      cases soI hvK6
      exact oNi ⟨rfl, (by first | (cbv; done) | ((repeat (cbv; simp only [c3])); first | done | cbv))⟩
    · replace hvK6 := cF c3 hvK6
      rcases tf (A.zlt 6 x1) with c4 | c4
      · replace hvK6 := cT c4 hvK6
        refine AWp.rg hT hA {} (by (repeat (cbv; simp only [c3, c4])); first | done | cbv) (lb rfl) ?_
        cases soI hvK6
        exact oNi ⟨rfl, (by first | (cbv; done) | ((repeat (cbv; simp only [c3, c4])); first | done | cbv))⟩
      · replace hvK6 := cF c4 hvK6
        refine AWp.rg hT hA {} (by (repeat (cbv; simp only [c3, c4])); first | done | cbv) (lb rfl) ?_
        cases soI hvK6
        exact oNi ⟨rfl, (by first | (cbv; done) | ((repeat (cbv; simp only [c3, c4])); first | done | cbv))⟩
  · rintro _ rfl
    refine nT ?_
    rcases tf v5 with c7 | c7
    · replace h := cT c7 h
      refine AWp.cdT rfl (by first | rfl | simp only [c7, Bool.not_true, Bool.not_false, cond_true, cond_false]) ?_
      refine AWp.seq ?_
      refine AWp.rg hT hA {} (by (repeat (cbv; simp only [c7])); first | done | cbv) (lb rfl) ?_
      refine nT ?_
      refine AWp.ret ?_
      refine rT ?_
      cases soI h
      exact ⟨rfl, rfl, rfl, lb rfl, _, rfl⟩
    · replace h := cF c7 h
      refine AWp.cdF rfl (by first | rfl | simp only [c7, Bool.not_true, Bool.not_false, cond_true, cond_false]) ?_
      refine AWp.skip ?_
      refine nT ?_
      refine AWp.seq ?_
      refine AWp.seq ?_
      refine AWp.rg hT hA {} (by (repeat (cbv; simp only [c7])); first | done | cbv) (lb rfl) ?_
      refine nT ?_
      refine AWp.block ?_
      obtain ⟨xK91, hxK91, K91, hK91, hkK91⟩ := bindK h
      refine AWp.cutX 0 [] [] 0 (lb rfl) (fun τ => K91 (.inl ()) = some v92 ∧ τ = { env := [], heap := [], n := 65 }) ?_ ?_
      · skip
        refine AWp.iter hxK91 [1, 22, 23, 24] [] 0 (lb rfl) (fun v49 => { env := [(1, (.lbox [(.d (.int .i64 x1)), (.d (.list 3 x2))])), (22, (.d (.list 3 x2))), (23, (.d (.int .i64 (A.len x2)))), (24, (.d (.int .i64 v49)))], heap := [], n := 65 }) ⟨rfl, (by first | (cbv; done) | ((repeat (cbv; simp only [c7])); first | done | cbv))⟩ ?_
        rintro v49 eK91 hsK91
        dsimp only [R34L1] at hsK91
        refine AWp.seq ?_
        refine AWp.rg hT hA {} (by cbv) (lb rfl) ?_
        refine nT ?_
        refine AWp.seq ?_
        rcases tf (A.zlt v49 (A.len x2)) with c50 | c50
        · replace hsK91 := cT c50 hsK91
          refine AWp.cdT rfl (by first | rfl | simp only [c50, Bool.not_true, Bool.not_false, cond_true, cond_false]) ?_
          refine AWp.skip ?_
          refine nT ?_
          refine AWp.seq ?_
          refine AWp.block ?_
          refine AWp.seq ?_
          obtain ⟨⟨a51, a52, a53⟩, e54, hsK91⟩ := bindS hsK91
          obtain ⟨f55, f56⟩ := gtI e54
          refine AWp.rg hT hA { tk := [28] } (by (repeat (cbv; simp only [c50, f55, f56])); first | done | cbv) (lb rfl) ?_
          refine nT ?_
          refine AWp.seq ?_
          refine AWp.seq ?_
          obtain ⟨v64, hvK65, hsK91⟩ := bindS hsK91
          refine AWp.cutN [1, 3, 4, 22, 23, 24, 50] [] 0 (lb rfl) (fun τ => τ = { env := [(1, (.lbox [(.d (.int .i64 x1)), (.d (.list 3 x2))])), (3, (.d (.int .i64 v49))), (4, (.lbox [(.d (.int .i64 a51)), (.d (.int .i64 a52)), (.d (.int .i64 a53))])), (22, (.d (.list 3 x2))), (23, (.d (.int .i64 (A.len x2)))), (24, (.d (.int .i64 v49))), (50, (.d (.bool v64)))], heap := [], n := 65 }) ?_ ?_
          · skip
            refine AWp.region ?_
            obtain ⟨r58, e57, hvK65⟩ := bindS hvK65
            refine AOps.cc hT hA {} (by (repeat (cbv; simp only [c50])); first | done | cbv) (lb rfl) (R77w hA e57) rfl (.inl rfl) rfl rfl rfl (lb rfl) rfl rfl ?_
            rcases tf r58 with c59 | c59
            · replace hvK65 := cT c59 hvK65
              obtain ⟨r61, e60, hvK65⟩ := bindS hvK65
              refine AOps.cc hT hA {} (by (repeat (cbv; simp only [c50, c59])); first | done | cbv) (lb rfl) (R77w hA e60) rfl (.inl rfl) rfl rfl rfl (lb rfl) rfl rfl ?_
              rcases tf r61 with c62 | c62
              · replace hvK65 := cT c62 hvK65
                rcases tf (A.zlt a52 0) with c63 | c63
                · replace hvK65 := cT c63 hvK65
                  refine AOps.cd hT hA {} (by (repeat (cbv; simp only [c50, c59, c62, c63])); first | done | cbv) (lb rfl) ?_
                  cases soI hvK65
                  exact oNi ⟨rfl, (by first | (cbv; done) | ((repeat (cbv; simp only [c50, c59, c62, c63])); first | done | cbv))⟩
                · replace hvK65 := cF c63 hvK65
                  refine AOps.cd hT hA {} (by (repeat (cbv; simp only [c50, c59, c62, c63])); first | done | cbv) (lb rfl) ?_
                  cases soI hvK65
                  exact oNi ⟨rfl, (by first | (cbv; done) | ((repeat (cbv; simp only [c50, c59, c62, c63])); first | done | cbv))⟩
              · replace hvK65 := cF c62 hvK65
                refine AOps.cd hT hA {} (by (repeat (cbv; simp only [c50, c59, c62])); first | done | cbv) (lb rfl) ?_
                cases soI hvK65
                exact oNi ⟨rfl, (by first | (cbv; done) | ((repeat (cbv; simp only [c50, c59, c62])); first | done | cbv))⟩
            · replace hvK65 := cF c59 hvK65
              refine AOps.cd hT hA {} (by (repeat (cbv; simp only [c50, c59])); first | done | cbv) (lb rfl) ?_
              cases soI hvK65
              exact oNi ⟨rfl, (by first | (cbv; done) | ((repeat (cbv; simp only [c50, c59])); first | done | cbv))⟩
          · rintro _ rfl
            refine nT ?_
            rcases tf v64 with c66 | c66
            · replace hsK91 := cT c66 hsK91
              refine AWp.cdT rfl (by first | rfl | simp only [c66, Bool.not_true, Bool.not_false, cond_true, cond_false]) ?_
              refine AWp.seq ?_
              refine AWp.rg hT hA {} (by (repeat (cbv; simp only [c66])); first | done | cbv) (lb rfl) ?_
              refine nT ?_
              refine AWp.ret ?_
              refine rT ?_
              refine rB ?_
              refine rT ?_
              refine rT ?_
              refine exL hsK91 fun hx => ?_
              subst hx
              refine oxR ?_
              replace hkK91 := (eR (hK91 _ hkK91))
              refine rB ?_
              refine rT ?_
              cases soI hkK91
              exact ⟨rfl, rfl, rfl, lb rfl, _, rfl⟩
            · replace hsK91 := cF c66 hsK91
              refine AWp.cdF rfl (by first | rfl | simp only [c66, Bool.not_true, Bool.not_false, cond_true, cond_false]) ?_
              refine AWp.skip ?_
              refine nT ?_
              refine AWp.seq ?_
              obtain ⟨l67, e68, hsK91⟩ := bindS hsK91
              obtain ⟨f69, f70, f71, f72⟩ := slI e68
              refine AWp.rg hT hA {} (by (repeat (cbv; simp only [c66, f69, f70, f71, f72])); first | done | cbv) (lb rfl) ?_
              refine nT ?_
              refine AWp.block ?_
              obtain ⟨xK90, hxK90, K90, hK90, hkK90⟩ := bindK hsK91
              refine AWp.cutX 2 [1, 22, 23, 24] [] 0 (lb rfl) (fun τ => K90 (.inl ()) = some eK91 ∧ τ = { env := [(1, (.lbox [(.d (.int .i64 x1)), (.d (.list 3 x2))])), (22, (.d (.list 3 x2))), (23, (.d (.int .i64 (A.len x2)))), (24, (.d (.int .i64 v49)))], heap := [], n := 65 }) ?_ ?_
              · skip
                refine AWp.iter hxK90 [1, 4, 22, 23, 24, 54, 55, 56] [] 0 (lb rfl) (fun v81 => { env := [(1, (.lbox [(.d (.int .i64 x1)), (.d (.list 3 x2))])), (4, (.lbox [(.d (.int .i64 a51)), (.d (.int .i64 a52)), (.d (.int .i64 a53))])), (22, (.d (.list 3 x2))), (23, (.d (.int .i64 (A.len x2)))), (24, (.d (.int .i64 v49))), (54, (.d (.list 3 l67))), (55, (.d (.int .i64 (A.len l67)))), (56, (.d (.int .i64 v81)))], heap := [], n := 65 }) ⟨rfl, (by first | (cbv; done) | ((repeat (cbv; simp only [c66])); first | done | cbv))⟩ ?_
                rintro v81 eK90 hsK90
                dsimp only [R34L0] at hsK90
                refine AWp.seq ?_
                refine AWp.rg hT hA {} (by cbv) (lb rfl) ?_
                refine nT ?_
                refine AWp.seq ?_
                rcases tf (A.zlt v81 (A.len l67)) with c82 | c82
                · replace hsK90 := cT c82 hsK90
                  refine AWp.cdT rfl (by first | rfl | simp only [c82, Bool.not_true, Bool.not_false, cond_true, cond_false]) ?_
                  refine AWp.skip ?_
                  refine nT ?_
                  refine AWp.seq ?_
                  refine AWp.block ?_
                  refine AWp.seq ?_
                  obtain ⟨⟨a83, a84, a85⟩, e86, hsK90⟩ := bindS hsK90
                  obtain ⟨f87, f88⟩ := gtI e86
                  refine AWp.rg hT hA { tk := [59] } (by (repeat (cbv; simp only [c82, f87, f88])); first | done | cbv) (lb rfl) ?_
                  refine nT ?_
                  refine AWp.seq ?_
                  refine AWp.rg hT hA {} (by (repeat (cbv; simp only [c82])); first | done | cbv) (lb rfl) ?_
                  refine nT ?_
                  rcases tf (A.deq [(.int .i64 a51), (.int .i64 a52), (.int .i64 a53)] [(.int .i64 a83), (.int .i64 a84), (.int .i64 a85)]) with c89 | c89
                  · replace hsK90 := cT c89 hsK90
                    refine AWp.cdT rfl (by first | rfl | simp only [c82, c89, Bool.not_true, Bool.not_false, cond_true, cond_false]) ?_
                    refine AWp.seq ?_
                    refine AWp.rg hT hA {} (by (repeat (cbv; simp only [c82, c89])); first | done | cbv) (lb rfl) ?_
                    refine nT ?_
                    refine AWp.ret ?_
                    refine rB ?_
                    refine rT ?_
                    refine rT ?_
                    refine exL hsK90 fun hx => ?_
                    subst hx
                    refine oxR ?_
                    replace hkK90 := (eR (hK90 _ hkK90))
                    refine rB ?_
                    refine rB ?_
                    refine rT ?_
                    refine rT ?_
                    refine exL hkK90 fun hx => ?_
                    subst hx
                    refine oxR ?_
                    replace hkK91 := (eR (hK91 _ hkK91))
                    refine rB ?_
                    refine rT ?_
                    cases soI hkK91
                    exact ⟨rfl, rfl, rfl, lb rfl, _, rfl⟩
                  · replace hsK90 := cF c89 hsK90
                    refine AWp.cdF rfl (by first | rfl | simp only [c82, c89, Bool.not_true, Bool.not_false, cond_true, cond_false]) ?_
                    refine AWp.skip ?_
                    refine nB ?_
                    refine nT ?_
                    refine AWp.rg hT hA {} (by (repeat (cbv; simp only [c82, c89])); first | done | cbv) (lb rfl) ?_
                    exact nT ⟨_, (soI hsK90).symm, rfl, (by first | (cbv; done) | ((repeat (cbv; simp only [c82, c89])); first | done | cbv))⟩
                · replace hsK90 := cF c82 hsK90
                  refine AWp.cdF rfl (by first | rfl | simp only [c82, Bool.not_true, Bool.not_false, cond_true, cond_false]) ?_
                  refine AWp.exit ?_
                  refine xT ?_
                  refine xT ?_
                  refine exL hsK90 fun hx => ?_
                  subst hx
                  exact oxI ⟨rfl, hkK90, (by first | (cbv; done) | ((repeat (cbv; simp only [c82])); first | done | cbv))⟩
              · rintro _ ⟨hkK90, rfl⟩
                have hsK91 := (eL (hK90 _ hkK90))
                refine xB ?_
                refine nB ?_
                refine nT ?_
                refine AWp.rg hT hA {} (by cbv) (lb rfl) ?_
                exact nT ⟨_, (soI hsK91).symm, rfl, (by cbv)⟩
        · replace hsK91 := cF c50 hsK91
          refine AWp.cdF rfl (by first | rfl | simp only [c50, Bool.not_true, Bool.not_false, cond_true, cond_false]) ?_
          refine AWp.exit ?_
          refine xT ?_
          refine xT ?_
          refine exL hsK91 fun hx => ?_
          subst hx
          exact oxI ⟨rfl, hkK91, (by first | (cbv; done) | ((repeat (cbv; simp only [c50])); first | done | cbv))⟩
      · rintro _ ⟨hkK91, rfl⟩
        have h := (eL (hK91 _ hkK91))
        refine xB ?_
        refine nT ?_
        refine AWp.seq ?_
        refine AWp.rg hT hA {} (by cbv) (lb rfl) ?_
        refine nT ?_
        refine AWp.ret ?_
        cases soI h
        exact ⟨rfl, rfl, rfl, lb rfl, _, rfl⟩

theorem R107w {A : Ar} (hA : A = Ar.std) {x1 : Int} {x2 : List D} {x3 : Int} {x4 : Int} {v43 : Int} (h : R107 A x1 x2 x3 x4 = some v43) : ACall Try.prog 107 [(.d (.agg [(.int .i64 x1), (.list 3 x2)])), (.d (.int .i64 x3)), (.d (.int .i64 x4))] [] (.d (.int .i64 v43)) [] := by
  unfold R107 at h
  refine ACall.enter hT (fn := Try.f107) Try.func107 rfl (by decide) (by simp [Try.f107]) rfl rfl rfl rfl (lb rfl) ?_
  refine AWp.seq ?_
  refine AWp.rg hT hA {} (by cbv) (lb rfl) ?_
  refine nT ?_
  refine AWp.seq ?_
  refine AWp.rg hT hA {} (by cbv) (lb rfl) ?_
  refine nT ?_
  refine AWp.seq ?_
  refine AWp.seq ?_
  refine AWp.rg hT hA {} (by cbv) (lb rfl) ?_
  refine nT ?_
  refine AWp.block ?_
  obtain ⟨xK42, hxK42, K42, hK42, hkK42⟩ := bindK h
  refine AWp.cutX 0 [7] [] 0 (lb rfl) (fun τ => ∃ v41, K42 v41 = some v43 ∧ τ = { env := [(7, (.d (.int .i64 v41)))], heap := [], n := 36 }) ?_ ?_
  · skip
    refine AWp.iter hxK42 [1, 2, 7, 11, 12, 13] [] 0 (lb rfl) (fun (v22, v23) => { env := [(1, (.d (.int .i64 x3))), (2, (.d (.int .i64 x4))), (7, (.d (.int .i64 v22))), (11, (.d (.list 3 x2))), (12, (.d (.int .i64 (A.len x2)))), (13, (.d (.int .i64 v23)))], heap := [], n := 36 }) ⟨rfl, (by cbv)⟩ ?_
    rintro ⟨v22, v23⟩ eK42 hsK42
    dsimp only [R107L0] at hsK42
    refine AWp.seq ?_
    refine AWp.rg hT hA {} (by cbv) (lb rfl) ?_
    refine nT ?_
    refine AWp.seq ?_
    rcases tf (A.zlt v23 (A.len x2)) with c24 | c24
    · replace hsK42 := cT c24 hsK42
      refine AWp.cdT rfl (by first | rfl | simp only [c24, Bool.not_true, Bool.not_false, cond_true, cond_false]) ?_
      refine AWp.skip ?_
      refine nT ?_
      refine AWp.seq ?_
      refine AWp.block ?_
      refine AWp.seq ?_
      obtain ⟨⟨a25, a26, a27⟩, e28, hsK42⟩ := bindS hsK42
      obtain ⟨f29, f30⟩ := gtI e28
      refine AWp.rg hT hA { tk := [16] } (by (repeat (cbv; simp only [c24, f29, f30])); first | done | cbv) (lb rfl) ?_
      refine nT ?_
      refine AWp.seq ?_
      obtain ⟨v34, hvK35, hsK42⟩ := bindS hsK42
      refine AWp.cutN [1, 2, 7, 9, 11, 12, 13, 28] [] 0 (lb rfl) (fun τ => τ = { env := [(1, (.d (.int .i64 x3))), (2, (.d (.int .i64 x4))), (7, (.d (.int .i64 v22))), (9, (.lbox [(.d (.int .i64 a25)), (.d (.int .i64 a26)), (.d (.int .i64 a27))])), (11, (.d (.list 3 x2))), (12, (.d (.int .i64 (A.len x2)))), (13, (.d (.int .i64 v23))), (28, (.d (.bool v34)))], heap := [], n := 36 }) ?_ ?_
      · skip
        rcases tf (A.zeq a26 x4) with c31 | c31
        · replace hvK35 := cT c31 hvK35
          obtain ⟨_, e32, hvK35⟩ := bindS hvK35
          have f33 := nkI e32
          refine AWp.rg hT hA {} (by (repeat (cbv; simp only [c24, c31, f33])); first | done | cbv) (lb rfl) ?_
          cases soI hvK35
          exact oNi ⟨rfl, (by first | (cbv; done) | ((repeat (cbv; simp only [c24, c31])); first | done | cbv))⟩
        · replace hvK35 := cF c31 hvK35
          refine AWp.rg hT hA {} (by (repeat (cbv; simp only [c24, c31])); first | done | cbv) (lb rfl) ?_
          cases soI hvK35
          exact oNi ⟨rfl, (by first | (cbv; done) | ((repeat (cbv; simp only [c24, c31])); first | done | cbv))⟩
      · rintro _ rfl
        refine nT ?_
        obtain ⟨v39, hvK40, hsK42⟩ := bindS hsK42
        refine AWp.cutN [1, 2, 7, 11, 12, 13] [] 0 (lb rfl) (fun τ => τ = { env := [(1, (.d (.int .i64 x3))), (2, (.d (.int .i64 x4))), (7, (.d (.int .i64 v39))), (11, (.d (.list 3 x2))), (12, (.d (.int .i64 (A.len x2)))), (13, (.d (.int .i64 v23)))], heap := [], n := 36 }) ?_ ?_
        · skip
          rcases tf v34 with c36 | c36
          · replace hvK40 := cT c36 hvK40
            refine AWp.cdT rfl (by first | rfl | simp only [c36, Bool.not_true, Bool.not_false, cond_true, cond_false]) ?_
            obtain ⟨_, e37, hvK40⟩ := bindS hvK40
            have f38 := nkI e37
            refine AWp.rg hT hA { tk := [33] } (by (repeat (cbv; simp only [c36, f38])); first | done | cbv) (lb rfl) ?_
            cases soI hvK40
            exact oNi ⟨rfl, (by first | (cbv; done) | ((repeat (cbv; simp only [c36])); first | done | cbv))⟩
          · replace hvK40 := cF c36 hvK40
            refine AWp.cdF rfl (by first | rfl | simp only [c36, Bool.not_true, Bool.not_false, cond_true, cond_false]) ?_
            refine AWp.skip ?_
            cases soI hvK40
            exact oNi ⟨rfl, (by first | (cbv; done) | ((repeat (cbv; simp only [c36])); first | done | cbv))⟩
        · rintro _ rfl
          refine nB ?_
          refine nT ?_
          refine AWp.rg hT hA {} (by cbv) (lb rfl) ?_
          exact nT ⟨_, (soI hsK42).symm, rfl, (by cbv)⟩
    · replace hsK42 := cF c24 hsK42
      refine AWp.cdF rfl (by first | rfl | simp only [c24, Bool.not_true, Bool.not_false, cond_true, cond_false]) ?_
      refine AWp.exit ?_
      refine xT ?_
      refine xT ?_
      refine exL hsK42 fun hx => ?_
      subst hx
      exact oxI ⟨rfl, _, hkK42, (by first | (cbv; done) | ((repeat (cbv; simp only [c24])); first | done | cbv))⟩
  · rintro _ ⟨v41, hkK42, rfl⟩
    have h := (hK42 _ hkK42)
    refine xB ?_
    refine nT ?_
    refine AWp.seq ?_
    refine AWp.rg hT hA { tk := [7, 35] } (by cbv) (lb rfl) ?_
    refine nT ?_
    refine AWp.ret ?_
    cases soI h
    exact ⟨rfl, rfl, rfl, lb rfl, _, rfl⟩

theorem R73w {A : Ar} (hA : A = Ar.std) {x1 : Int} {x2 : List D} {x3 : Int} {v14 : Int} (h : R73 A x1 x2 x3 = some v14) : ACall Try.prog 73 [(.d (.agg [(.int .i64 x1), (.list 3 x2)])), (.d (.int .i64 x3))] [] (.d (.int .i64 v14)) [] := by
  unfold R73 at h
  refine ACall.enter hT (fn := Try.f73) Try.func73 rfl (by decide) (by simp [Try.f73]) rfl rfl rfl rfl (lb rfl) ?_
  refine AWp.seq ?_
  refine AWp.rg hT hA {} (by cbv) (lb rfl) ?_
  refine nT ?_
  refine AWp.seq ?_
  refine AWp.seq ?_
  refine AWp.rg hT hA {} (by cbv) (lb rfl) ?_
  refine nT ?_
  refine AWp.block ?_
  obtain ⟨xK13, hxK13, K13, hK13, hkK13⟩ := bindK h
  refine AWp.cutX 0 [1] [] 0 (lb rfl) (fun τ => ∃ v12, K13 v12 = some v14 ∧ τ = { env := [(1, (.d (.int .i64 v12)))], heap := [], n := 16 }) ?_ ?_
  · skip
    refine AWp.iter hxK13 [1, 2, 6, 7] [] 0 (lb rfl) (fun (v7, v8) => { env := [(1, (.d (.int .i64 v7))), (2, (.lbox [(.d (.int .i64 x1)), (.d (.list 3 x2))])), (6, (.d (.int .i64 x1))), (7, (.d (.int .i64 v8)))], heap := [], n := 16 }) ⟨rfl, (by cbv)⟩ ?_
    rintro ⟨v7, v8⟩ eK13 hsK13
    dsimp only [R73L0] at hsK13
    refine AWp.seq ?_
    refine AWp.rg hT hA {} (by cbv) (lb rfl) ?_
    refine nT ?_
    refine AWp.seq ?_
    rcases tf (A.zlt v8 x1) with c9 | c9
    · replace hsK13 := cT c9 hsK13
      refine AWp.cdT rfl (by first | rfl | simp only [c9, Bool.not_true, Bool.not_false, cond_true, cond_false]) ?_
      refine AWp.skip ?_
      refine nT ?_
      refine AWp.seq ?_
      refine AWp.block ?_
      refine AWp.region ?_
      obtain ⟨r11, e10, hsK13⟩ := bindS hsK13
      refine AOps.cc hT hA { tk := [13] } (by (repeat (cbv; simp only [c9])); first | done | cbv) (lb rfl) (R107w hA e10) rfl (.inl rfl) rfl rfl rfl (lb rfl) rfl rfl ?_
      refine AOps.cd hT hA { tk := [13] } (by (repeat (cbv; simp only [c9])); first | done | cbv) (lb rfl) ?_
      refine nB ?_
      refine nT ?_
      refine AWp.rg hT hA {} (by (repeat (cbv; simp only [c9])); first | done | cbv) (lb rfl) ?_
      exact nT ⟨_, (soI hsK13).symm, rfl, (by first | (cbv; done) | ((repeat (cbv; simp only [c9])); first | done | cbv))⟩
    · replace hsK13 := cF c9 hsK13
      refine AWp.cdF rfl (by first | rfl | simp only [c9, Bool.not_true, Bool.not_false, cond_true, cond_false]) ?_
      refine AWp.exit ?_
      refine xT ?_
      refine xT ?_
      refine exL hsK13 fun hx => ?_
      subst hx
      exact oxI ⟨rfl, _, hkK13, (by first | (cbv; done) | ((repeat (cbv; simp only [c9])); first | done | cbv))⟩
  · rintro _ ⟨v12, hkK13, rfl⟩
    have h := (hK13 _ hkK13)
    refine xB ?_
    refine nT ?_
    refine AWp.seq ?_
    refine AWp.rg hT hA { tk := [1, 15] } (by cbv) (lb rfl) ?_
    refine nT ?_
    refine AWp.ret ?_
    cases soI h
    exact ⟨rfl, rfl, rfl, lb rfl, _, rfl⟩

theorem R74w {A : Ar} (hA : A = Ar.std) {x1 : Int} {x2 : List D} {x3 : Int} {x4 : Int} {v14 : Int} (h : R74 A x1 x2 x3 x4 = some v14) : ACall Try.prog 74 [(.d (.agg [(.int .i64 x1), (.list 3 x2)])), (.d (.int .i64 x3)), (.d (.int .i64 x4))] [] (.d (.int .i64 v14)) [] := by
  unfold R74 at h
  refine ACall.enter hT (fn := Try.f74) Try.func74 rfl (by decide) (by simp [Try.f74]) rfl rfl rfl rfl (lb rfl) ?_
  refine AWp.seq ?_
  refine AWp.rg hT hA {} (by cbv) (lb rfl) ?_
  refine nT ?_
  refine AWp.seq ?_
  refine AWp.seq ?_
  refine AWp.rg hT hA {} (by cbv) (lb rfl) ?_
  refine nT ?_
  rcases tf (A.zeq x4 0) with c5 | c5
  · replace h := cT c5 h
    refine AWp.cdT rfl (by first | rfl | simp only [c5, Bool.not_true, Bool.not_false, cond_true, cond_false]) ?_
    refine AWp.seq ?_
    refine AWp.region ?_
    obtain ⟨r7, e6, h⟩ := bindS h
    refine AOps.cc hT hA { tk := [11] } (by (repeat (cbv; simp only [c5])); first | done | cbv) (lb rfl) (R73w hA e6) rfl (.inl rfl) rfl rfl rfl (lb rfl) rfl rfl ?_
    refine AOps.cd hT hA { tk := [11] } (by (repeat (cbv; simp only [c5])); first | done | cbv) (lb rfl) ?_
    refine nT ?_
    refine AWp.ret ?_
    refine rT ?_
    cases soI h
    exact ⟨rfl, rfl, rfl, lb rfl, _, rfl⟩
  · replace h := cF c5 h
    refine AWp.cdF rfl (by first | rfl | simp only [c5, Bool.not_true, Bool.not_false, cond_true, cond_false]) ?_
    refine AWp.skip ?_
    refine nT ?_
    refine AWp.seq ?_
    refine AWp.regionDraw rfl (lb rfl) ?_
    obtain ⟨r9, e8, h⟩ := bindS h
    refine DOps.c0 hT hA { tk := [19] } rfl (by (repeat (cbv; simp only [c5])); first | done | cbv) (R73w hA e8) rfl rfl (lb rfl) rfl rfl ?_
    obtain ⟨r11, e10, h⟩ := bindS h
    refine DOps.c0 hT hA { tk := [19] } rfl (by (repeat (cbv; simp only [c5])); first | done | cbv) (R107w hA e10) rfl rfl (lb rfl) rfl rfl ?_
    obtain ⟨r13, e12, h⟩ := bindS h
    refine DOps.c0 hT hA { tk := [19] } rfl (by (repeat (cbv; simp only [c5])); first | done | cbv) (R73w hA e12) rfl rfl (lb rfl) rfl rfl ?_
    refine DOps.cd hT hA { tk := [19] } rfl (by (repeat (cbv; simp only [c5])); first | done | cbv) (by kernel_rfl) ?_
    refine nT ?_
    refine AWp.ret ?_
    cases soI h
    exact ⟨rfl, rfl, rfl, lb rfl, _, rfl⟩

theorem R72w {A : Ar} (hA : A = Ar.std) {x1 : List D} {x2 : Int} {v18 : Int} (h : R72 A x1 x2 = some v18) : ACall Try.prog 72 [(.d (.list 1 x1)), (.d (.int .u8 x2))] [] (.d (.int .i64 v18)) [] := by
  unfold R72 at h
  refine ACall.enter hT (fn := Try.f72) Try.func72 rfl (by decide) (by simp [Try.f72]) rfl rfl rfl rfl (lb rfl) ?_
  refine AWp.seq ?_
  refine AWp.rg hT hA {} (by cbv) (lb rfl) ?_
  refine nT ?_
  refine AWp.seq ?_
  refine AWp.seq ?_
  refine AWp.rg hT hA {} (by cbv) (lb rfl) ?_
  refine nT ?_
  refine AWp.block ?_
  obtain ⟨xK17, hxK17, K17, hK17, hkK17⟩ := bindK h
  refine AWp.cutX 0 [] [] 0 (lb rfl) (fun τ => K17 (.inl ()) = some v18 ∧ τ = { env := [], heap := [], n := 19 }) ?_ ?_
  · skip
    refine AWp.iter hxK17 [0, 1, 7, 8] [] 0 (lb rfl) (fun v9 => { env := [(0, (.d (.list 1 x1))), (1, (.d (.int .u8 x2))), (7, (.d (.int .i64 (A.len x1)))), (8, (.d (.int .i64 v9)))], heap := [], n := 19 }) ⟨rfl, (by cbv)⟩ ?_
    rintro v9 eK17 hsK17
    dsimp only [R72L0] at hsK17
    refine AWp.seq ?_
    refine AWp.rg hT hA {} (by cbv) (lb rfl) ?_
    refine nT ?_
    refine AWp.seq ?_
    rcases tf (A.zlt v9 (A.len x1)) with c10 | c10
    · replace hsK17 := cT c10 hsK17
      refine AWp.cdT rfl (by first | rfl | simp only [c10, Bool.not_true, Bool.not_false, cond_true, cond_false]) ?_
      refine AWp.skip ?_
      refine nT ?_
      refine AWp.seq ?_
      refine AWp.block ?_
      refine AWp.seq ?_
      refine AWp.rg hT hA { tk := [8, 10] } (by (repeat (cbv; simp only [c10])); first | done | cbv) (lb rfl) ?_
      refine nT ?_
      refine AWp.seq ?_
      obtain ⟨a11, e12, hsK17⟩ := bindS hsK17
      obtain ⟨f13, f14⟩ := gtI e12
      refine AWp.rg hT hA {} (by (repeat (cbv; simp only [c10, f13, f14])); first | done | cbv) (lb rfl) ?_
      refine nT ?_
      rcases tf (A.zeq x2 a11) with c15 | c15
      · replace hsK17 := cT c15 hsK17
        refine AWp.cdT rfl (by first | rfl | simp only [c10, c15, Bool.not_true, Bool.not_false, cond_true, cond_false]) ?_
        refine AWp.seq ?_
        refine AWp.rg hT hA { tk := [5, 17] } (by (repeat (cbv; simp only [c10, c15])); first | done | cbv) (lb rfl) ?_
        refine nT ?_
        refine AWp.ret ?_
        refine rB ?_
        refine rT ?_
        refine rT ?_
        refine exL hsK17 fun hx => ?_
        subst hx
        refine oxR ?_
        replace hkK17 := (eR (hK17 _ hkK17))
        refine rB ?_
        refine rT ?_
        cases soI hkK17
        exact ⟨rfl, rfl, rfl, lb rfl, _, rfl⟩
      · replace hsK17 := cF c15 hsK17
        refine AWp.cdF rfl (by first | rfl | simp only [c10, c15, Bool.not_true, Bool.not_false, cond_true, cond_false]) ?_
        refine AWp.skip ?_
        refine nB ?_
        refine nT ?_
        refine AWp.rg hT hA { tk := [18] } (by (repeat (cbv; simp only [c10, c15])); first | done | cbv) (lb rfl) ?_
        exact nT ⟨_, (soI hsK17).symm, rfl, (by first | (cbv; done) | ((repeat (cbv; simp only [c10, c15])); first | done | cbv))⟩
    · replace hsK17 := cF c10 hsK17
      refine AWp.cdF rfl (by first | rfl | simp only [c10, Bool.not_true, Bool.not_false, cond_true, cond_false]) ?_
      refine AWp.exit ?_
      refine xT ?_
      refine xT ?_
      refine exL hsK17 fun hx => ?_
      subst hx
      exact oxI ⟨rfl, hkK17, (by first | (cbv; done) | ((repeat (cbv; simp only [c10])); first | done | cbv))⟩
  · rintro _ ⟨hkK17, rfl⟩
    have h := (eL (hK17 _ hkK17))
    refine xB ?_
    refine nT ?_
    refine AWp.seq ?_
    refine AWp.rg hT hA {} (by cbv) (lb rfl) ?_
    refine nT ?_
    refine AWp.ret ?_
    cases soI h
    exact ⟨rfl, rfl, rfl, lb rfl, _, rfl⟩

theorem R28w {A : Ar} (hA : A = Ar.std) {x1 : Int} {x2 : List D} {v132 : Int} {v133 : List D} {v134 : Int} (h : R28 A x1 x2 = some (v132, v133, v134)) : ACall Try.prog 28 [(.d (.agg [(.int .i64 x1), (.list 3 x2)]))] [] (.tuple [(.d (.agg [(.int .i64 v132), (.list 3 v133)])), (.d (.int .i64 v134))]) [] := by
  unfold R28 at h
  refine ACall.enter hT (fn := Try.f28) Try.func28 rfl (by decide) (by simp [Try.f28]) rfl rfl rfl rfl (lb rfl) ?_
  refine AWp.seq ?_
  refine AWp.rg hT hA {} (by cbv) (lb rfl) ?_
  refine nT ?_
  refine AWp.seq ?_
  refine AWp.region ?_
  obtain ⟨q5, e3, h⟩ := bindS h
  rcases q5 with r4 | _
  · replace h := (eL h)
    refine AOps.cc hT hA {} (by cbv) (lb rfl) (R58wa hA e3) rfl (.inl rfl) rfl rfl rfl (lb rfl) rfl rfl ?_
    refine AOps.cd hT hA {} (by cbv) (lb rfl) ?_
    refine nT ?_
    refine AWp.seq ?_
    refine AWp.seq ?_
    have f6 := zeqF hA (a := 0) (b := 0) (c := true) rfl
    refine AWp.rg hT hA {} (by (repeat (cbv; simp only [f6])); first | done | cbv) (lb rfl) ?_
    refine nT ?_
    refine AWp.cdF rfl (by first | rfl | simp only [f6, Bool.not_true, Bool.not_false, cond_true, cond_false]) ?_
    refine AWp.skip ?_
    refine nT ?_
    refine AWp.seq ?_
    refine AWp.region ?_
    obtain ⟨r8, e7, h⟩ := bindS h
    refine AOps.cc hT hA { tk := [23] } (by (repeat (cbv; simp only [f6])); first | done | cbv) (lb rfl) (R62w hA e7) rfl (.inl rfl) rfl rfl rfl (lb rfl) rfl rfl ?_
    refine AOps.cd hT hA { tk := [23] } (by (repeat (cbv; simp only [f6])); first | done | cbv) (lb rfl) ?_
    refine nT ?_
    refine AWp.seq ?_
    refine AWp.rg hT hA {} (by (repeat (cbv; simp only [f6])); first | done | cbv) (lb rfl) ?_
    refine nT ?_
    refine AWp.seq ?_
    refine AWp.seq ?_
    refine AWp.rg hT hA {} (by (repeat (cbv; simp only [f6])); first | done | cbv) (lb rfl) ?_
    refine nT ?_
    refine AWp.block ?_
    obtain ⟨xK130, hxK130, K130, hK130, hkK130⟩ := bindK h
    refine AWp.cutX 0 [2, 6, 7] [] 1 (lb rfl) (fun τ => ∃ v128 v129, K130 (.inl (v128, v129)) = some (v132, v133, v134) ∧ τ = { env := [(2, (.lbox [(.d (.int .i64 0)), (.own 3 [])])), (6, (.own 1 v128)), (7, (.lbox [(.d (.int .i64 0)), (.own 3 v129)]))], heap := [(.arr 1 r4)], n := 72 }) ?_ ?_
    · skip
      refine AWp.iter hxK130 [2, 4, 6, 7, 8] [] 1 (lb rfl) (fun (v67, v68, v69) => { env := [(2, (.lbox [(.d (.int .i64 0)), (.own 3 [])])), (4, (.ptr 0 0)), (6, (.own 1 v67)), (7, (.lbox [(.d (.int .i64 0)), (.own 3 v68)])), (8, (.d (.int .i64 v69)))], heap := [(.arr 1 r4)], n := 72 }) ⟨rfl, (by first | (cbv; done) | ((repeat (cbv; simp only [f6])); first | done | cbv))⟩ ?_
      rintro ⟨v67, v68, v69⟩ eK130 hsK130
      dsimp only [R28L1] at hsK130
      refine AWp.seq ?_
      refine AWp.seq ?_
      refine AWp.rg hT hA {} (by cbv) (lb rfl) ?_
      refine nT ?_
      rcases tf (A.zlt v69 (A.len v67)) with c70 | c70
      · replace hsK130 := cT c70 hsK130
        refine AWp.cdT rfl (by first | rfl | simp only [c70, Bool.not_true, Bool.not_false, cond_true, cond_false]) ?_
        refine AWp.skip ?_
        refine nT ?_
        refine AWp.seq ?_
        refine AWp.block ?_
        refine AWp.seq ?_
        refine AWp.seq ?_
        refine AWp.rg hT hA {} (by (repeat (cbv; simp only [c70])); first | done | cbv) (lb rfl) ?_
        refine nT ?_
        rcases tf (A.zeq v69 6) with c71 | c71
        · replace hsK130 := cT c71 hsK130
          refine AWp.cdT rfl (by first | rfl | simp only [c70, c71, Bool.not_true, Bool.not_false, cond_true, cond_false]) ?_
          refine AWp.seq ?_
          refine AWp.rg hT hA { tk := [32], nl := [32] } (by (repeat (cbv; simp only [c70, c71])); first | done | cbv) (lb rfl) ?_
          refine nT ?_
          refine AWp.ret ?_
          refine rT ?_
          refine rB ?_
          refine rT ?_
          refine rT ?_
          refine exL hsK130 fun hx => ?_
          subst hx
          refine oxR ?_
          replace hkK130 := (eR (hK130 _ hkK130))
          refine rB ?_
          refine rT ?_
          cases soI hkK130
          exact ⟨rfl, rfl, rfl, lb rfl, _, rfl⟩
        · replace hsK130 := cF c71 hsK130
          refine AWp.cdF rfl (by first | rfl | simp only [c70, c71, Bool.not_true, Bool.not_false, cond_true, cond_false]) ?_
          refine AWp.skip ?_
          refine nT ?_
          refine AWp.seq ?_
          refine AWp.rg hT hA {} (by (repeat (cbv; simp only [c70, c71])); first | done | cbv) (lb rfl) ?_
          refine nT ?_
          refine AWp.block ?_
          obtain ⟨xK127, hxK127, K127, hK127, hkK127⟩ := bindK hsK130
          refine AWp.cutX 2 [2, 4, 6, 7, 8] [] 1 (lb rfl) (fun τ => ∃ v125 v126, K127 (v125, v126) = some eK130 ∧ τ = { env := [(2, (.lbox [(.d (.int .i64 0)), (.own 3 [])])), (4, (.ptr 0 0)), (6, (.own 1 v125)), (7, (.lbox [(.d (.int .i64 0)), (.own 3 v126)])), (8, (.d (.int .i64 v69)))], heap := [(.arr 1 r4)], n := 72 }) ?_ ?_
          · skip
            refine AWp.iter hxK127 [2, 4, 6, 7, 8, 9] [] 1 (lb rfl) (fun (v97, v98, v99) => { env := [(2, (.lbox [(.d (.int .i64 0)), (.own 3 [])])), (4, (.ptr 0 0)), (6, (.own 1 v97)), (7, (.lbox [(.d (.int .i64 0)), (.own 3 v98)])), (8, (.d (.int .i64 v69))), (9, (.d (.int .i64 v99)))], heap := [(.arr 1 r4)], n := 72 }) ⟨rfl, (by first | (cbv; done) | ((repeat (cbv; simp only [c70, c71])); first | done | cbv))⟩ ?_
            rintro ⟨v97, v98, v99⟩ eK127 hsK127
            dsimp only [R28L0] at hsK127
            refine AWp.seq ?_
            refine AWp.seq ?_
            refine AWp.rg hT hA {} (by cbv) (lb rfl) ?_
            refine nT ?_
            rcases tf (A.zle v99 3) with c100 | c100
            · replace hsK127 := cT c100 hsK127
              refine AWp.cdT rfl (by first | rfl | simp only [c100, Bool.not_true, Bool.not_false, cond_true, cond_false]) ?_
              refine AWp.skip ?_
              refine nT ?_
              refine AWp.seq ?_
              obtain ⟨⟨v122, v123⟩, hvK124, hsK127⟩ := bindS hsK127
              refine AWp.cutN [2, 4, 6, 7, 8, 9] [] 1 (lb rfl) (fun τ => τ = { env := [(2, (.lbox [(.d (.int .i64 0)), (.own 3 [])])), (4, (.ptr 0 0)), (6, (.own 1 v122)), (7, (.lbox [(.d (.int .i64 0)), (.own 3 v123)])), (8, (.d (.int .i64 v69))), (9, (.d (.int .i64 v99)))], heap := [(.arr 1 r4)], n := 72 }) ?_ ?_
              · skip
                refine AWp.block ?_
                refine AWp.seq ?_
                refine AWp.regionDraw rfl (lb rfl) ?_
                obtain ⟨a101, e102, hvK124⟩ := bindS hvK124
                obtain ⟨f103, f104⟩ := gtI e102
                obtain ⟨r106, e105, hvK124⟩ := bindS hvK124
                refine DOps.cp hT hA {} rfl (by (repeat (cbv; simp only [c100, f103, f104])); first | done | cbv) (R68aw hA e105) rfl rfl rfl rfl (lb rfl) rfl rfl ?_
                refine DOps.cd hT hA {} rfl (by (repeat (cbv; simp only [c100, f103, f104])); first | done | cbv) (by kernel_rfl) ?_
                refine nT ?_
                refine AWp.seq ?_
                refine AWp.seq ?_
                refine AWp.rg hT hA {} (by (repeat (cbv; simp only [c100])); first | done | cbv) (lb rfl) ?_
                refine nT ?_
                rcases tf (A.zeq r106 0) with c107 | c107
                · replace hvK124 := cT c107 hvK124
                  refine AWp.cdT rfl (by first | rfl | simp only [c100, c107, Bool.not_true, Bool.not_false, cond_true, cond_false]) ?_
                  refine AWp.exit ?_
                  refine xT ?_
                  refine xB ?_
                  cases soI hvK124
                  exact oNi ⟨rfl, (by first | (cbv; done) | ((repeat (cbv; simp only [c100, c107])); first | done | cbv))⟩
                · replace hvK124 := cF c107 hvK124
                  refine AWp.cdF rfl (by first | rfl | simp only [c100, c107, Bool.not_true, Bool.not_false, cond_true, cond_false]) ?_
                  refine AWp.skip ?_
                  refine nT ?_
                  refine AWp.seq ?_
                  refine AWp.region ?_
                  obtain ⟨r109, e108, hvK124⟩ := bindS hvK124
                  refine AOps.cc hT hA {} (by (repeat (cbv; simp only [c100, c107])); first | done | cbv) (lb rfl) (R72w hA e108) rfl (.inr rfl) rfl rfl rfl (lb rfl) rfl rfl ?_
                  refine AOps.cd hT hA {} (by (repeat (cbv; simp only [c100, c107])); first | done | cbv) (lb rfl) ?_
                  refine nT ?_
                  refine AWp.seq ?_
                  refine AWp.seq ?_
                  refine AWp.rg hT hA {} (by (repeat (cbv; simp only [c100, c107])); first | done | cbv) (lb rfl) ?_
                  refine nT ?_
                  obtain ⟨⟨v115, v116⟩, hvK117, hvK124⟩ := bindS hvK124
                  refine AWp.cutN [2, 4, 6, 7, 8, 9, 11] [] 1 (lb rfl) (fun τ => τ = { env := [(2, (.lbox [(.d (.int .i64 0)), (.own 3 [])])), (4, (.ptr 0 0)), (6, (.own 1 v115)), (7, (.lbox [(.d (.int .i64 0)), (.own 3 v98)])), (8, (.d (.int .i64 v69))), (9, (.d (.int .i64 v99))), (11, (.d (.int .i64 v116)))], heap := [(.arr 1 r4)], n := 72 }) ?_ ?_
                  · skip
                    rcases tf (A.zlt r109 0) with c110 | c110
                    · replace hvK117 := cT c110 hvK117
                      refine AWp.cdT rfl (by first | rfl | simp only [c100, c107, c110, Bool.not_true, Bool.not_false, cond_true, cond_false]) ?_
                      refine AWp.seq ?_
                      refine AWp.rg hT hA {} (by (repeat (cbv; simp only [c100, c107, c110])); first | done | cbv) (lb rfl) ?_
                      refine nT ?_
                      obtain ⟨l111, e112, hvK117⟩ := bindS hvK117
                      obtain ⟨f113, f114⟩ := apI e112
                      refine AWp.rg hT hA { tk := [6, 58] } (by (repeat (cbv; simp only [c100, c107, c110, f113, f114])); first | done | cbv) (lb rfl) ?_
                      cases soI hvK117
                      exact oNi ⟨rfl, (by first | (cbv; done) | ((repeat (cbv; simp only [c100, c107, c110])); first | done | cbv))⟩
                    · replace hvK117 := cF c110 hvK117
                      refine AWp.cdF rfl (by first | rfl | simp only [c100, c107, c110, Bool.not_true, Bool.not_false, cond_true, cond_false]) ?_
                      refine AWp.skip ?_
                      cases soI hvK117
                      exact oNi ⟨rfl, (by first | (cbv; done) | ((repeat (cbv; simp only [c100, c107, c110])); first | done | cbv))⟩
                  · rintro _ rfl
                    refine nT ?_
                    obtain ⟨l118, e119, hvK124⟩ := bindS hvK124
                    obtain ⟨f120, f121⟩ := apI e119
                    refine AWp.rg hT hA { tk := [60, 66] } (by (repeat (cbv; simp only [f120, f121])); first | done | cbv) (lb rfl) ?_
                    refine nB ?_
                    cases soI hvK124
                    exact oNi ⟨rfl, (by cbv)⟩
              · rintro _ rfl
                refine nT ?_
                refine AWp.rg hT hA {} (by cbv) (lb rfl) ?_
                exact nT ⟨_, (soI hsK127).symm, rfl, (by cbv)⟩
            · replace hsK127 := cF c100 hsK127
              refine AWp.cdF rfl (by first | rfl | simp only [c100, Bool.not_true, Bool.not_false, cond_true, cond_false]) ?_
              refine AWp.exit ?_
              refine xT ?_
              refine xT ?_
              refine exL hsK127 fun hx => ?_
              subst hx
              exact oxI ⟨rfl, _, _, hkK127, (by first | (cbv; done) | ((repeat (cbv; simp only [c100])); first | done | cbv))⟩
          · rintro _ ⟨v125, v126, hkK127, rfl⟩
            have hsK130 := (hK127 _ hkK127)
            refine xB ?_
            refine nB ?_
            refine nT ?_
            refine AWp.rg hT hA {} (by cbv) (lb rfl) ?_
            exact nT ⟨_, (soI hsK130).symm, rfl, (by cbv)⟩
      · replace hsK130 := cF c70 hsK130
        refine AWp.cdF rfl (by first | rfl | simp only [c70, Bool.not_true, Bool.not_false, cond_true, cond_false]) ?_
        refine AWp.exit ?_
        refine xT ?_
        refine xT ?_
        refine exL hsK130 fun hx => ?_
        subst hx
        exact oxI ⟨rfl, _, _, hkK130, (by first | (cbv; done) | ((repeat (cbv; simp only [c70])); first | done | cbv))⟩
    · rintro _ ⟨v128, v129, hkK130, rfl⟩
      have h := (eL (hK130 _ hkK130))
      refine xB ?_
      refine nT ?_
      refine AWp.seq ?_
      refine AWp.rg hT hA {} (by cbv) (lb rfl) ?_
      refine nT ?_
      refine AWp.seq ?_
      refine AWp.rg hT hA { tk := [71] } (by cbv) (lb rfl) ?_
      refine nT ?_
      refine AWp.ret ?_
      cases soI h
      exact ⟨rfl, rfl, rfl, lb rfl, _, rfl⟩
  · replace h := (eR h)
    refine AOps.cc hT hA {} (by cbv) (lb rfl) (R58wb hA e3) rfl (.inl rfl) rfl rfl rfl (lb rfl) rfl rfl ?_
    refine AOps.cd hT hA {} (by cbv) (lb rfl) ?_
    refine nT ?_
    refine AWp.seq ?_
    refine AWp.seq ?_
    have f131 := zeqF hA (a := 50) (b := 0) (c := false) rfl
    refine AWp.rg hT hA {} (by (repeat (cbv; simp only [f131])); first | done | cbv) (lb rfl) ?_
    refine nT ?_
    refine AWp.cdT rfl (by first | rfl | simp only [f131, Bool.not_true, Bool.not_false, cond_true, cond_false]) ?_
    refine AWp.seq ?_
    refine AWp.rg hT hA { tk := [19], nl := [19] } (by (repeat (cbv; simp only [f131])); first | done | cbv) (lb rfl) ?_
    refine nT ?_
    refine AWp.ret ?_
    refine rT ?_
    cases soI h
    exact ⟨rfl, rfl, rfl, lb rfl, _, rfl⟩

theorem R30w {A : Ar} (hA : A = Ar.std) {x1 : Int} {x2 : List D} {x3 : Int} {x4 : List D} {v39 : Bool} (h : R30 A x1 x2 x3 x4 = some v39) : ACall Try.prog 30 [(.d (.agg [(.int .i64 x1), (.list 3 x2)])), (.d (.agg [(.int .i64 x3), (.list 3 x4)]))] [] (.d (.bool v39)) [] := by
  unfold R30 at h
  refine ACall.enter hT (fn := Try.f30) Try.func30 rfl (by decide) (by simp [Try.f30]) rfl rfl rfl rfl (lb rfl) ?_
  refine AWp.seq ?_
  refine AWp.rg hT hA {} (by cbv) (lb rfl) ?_
  refine nT ?_
  refine AWp.seq ?_
  refine AWp.seq ?_
  obtain ⟨v6, hvK7, h⟩ := bindS h
  refine AWp.cutN [2, 3, 19] [] 0 (lb rfl) (fun τ => τ = { env := [(2, (.lbox [(.d (.int .i64 x1)), (.d (.list 3 x2))])), (3, (.lbox [(.d (.int .i64 x3)), (.d (.list 3 x4))])), (19, (.d (.bool v6)))], heap := [], n := 38 }) ?_ ?_
  · skip
    rcases tf (A.zeq x1 x3) with c5 | c5
    · replace hvK7 := cT c5 hvK7
      refine AWp.rg hT hA {} (by (repeat (cbv; simp only [c5])); first | done | cbv) (lb rfl) ?_
      cases soI hvK7
      exact oNi ⟨rfl, (by first | (cbv; done) | ((repeat (cbv; simp only [c5])); first | done | cbv))⟩
    · replace hvK7 := cF c5 hvK7
      refine AWp.rg hT hA {} (by (repeat (cbv; simp only [c5])); first | done | cbv) (lb rfl) ?_
      cases soI hvK7
      exact oNi ⟨rfl, (by first | (cbv; done) | ((repeat (cbv; simp only [c5])); first | done | cbv))⟩
  · rintro _ rfl
    refine nT ?_
    rcases tf v6 with c8 | c8
    · replace h := cT c8 h
      refine AWp.cdT rfl (by first | rfl | simp only [c8, Bool.not_true, Bool.not_false, cond_true, cond_false]) ?_
      refine AWp.seq ?_
      refine AWp.rg hT hA {} (by (repeat (cbv; simp only [c8])); first | done | cbv) (lb rfl) ?_
      refine nT ?_
      refine AWp.ret ?_
      refine rT ?_
      cases soI h
      exact ⟨rfl, rfl, rfl, lb rfl, _, rfl⟩
    · replace h := cF c8 h
      refine AWp.cdF rfl (by first | rfl | simp only [c8, Bool.not_true, Bool.not_false, cond_true, cond_false]) ?_
      refine AWp.skip ?_
      refine nT ?_
      refine AWp.seq ?_
      refine AWp.seq ?_
      refine AWp.rg hT hA {} (by (repeat (cbv; simp only [c8])); first | done | cbv) (lb rfl) ?_
      refine nT ?_
      refine AWp.block ?_
      obtain ⟨xK38, hxK38, K38, hK38, hkK38⟩ := bindK h
      refine AWp.cutX 0 [] [] 0 (lb rfl) (fun τ => K38 (.inl ()) = some v39 ∧ τ = { env := [], heap := [], n := 38 }) ?_ ?_
      · skip
        refine AWp.iter hxK38 [2, 3, 22, 23] [] 0 (lb rfl) (fun v23 => { env := [(2, (.lbox [(.d (.int .i64 x1)), (.d (.list 3 x2))])), (3, (.lbox [(.d (.int .i64 x3)), (.d (.list 3 x4))])), (22, (.d (.int .i64 (A.len x2)))), (23, (.d (.int .i64 v23)))], heap := [], n := 38 }) ⟨rfl, (by first | (cbv; done) | ((repeat (cbv; simp only [c8])); first | done | cbv))⟩ ?_
        rintro v23 eK38 hsK38
        dsimp only [R30L0] at hsK38
        refine AWp.seq ?_
        refine AWp.rg hT hA {} (by cbv) (lb rfl) ?_
        refine nT ?_
        refine AWp.seq ?_
        rcases tf (A.zlt v23 (A.len x2)) with c24 | c24
        · replace hsK38 := cT c24 hsK38
          refine AWp.cdT rfl (by first | rfl | simp only [c24, Bool.not_true, Bool.not_false, cond_true, cond_false]) ?_
          refine AWp.skip ?_
          refine nT ?_
          refine AWp.seq ?_
          refine AWp.block ?_
          refine AWp.seq ?_
          refine AWp.rg hT hA {} (by (repeat (cbv; simp only [c24])); first | done | cbv) (lb rfl) ?_
          refine nT ?_
          refine AWp.seq ?_
          obtain ⟨⟨a25, a26, a27⟩, e28, hsK38⟩ := bindS hsK38
          obtain ⟨f29, f30⟩ := gtI e28
          obtain ⟨⟨a31, a32, a33⟩, e34, hsK38⟩ := bindS hsK38
          obtain ⟨f35, f36⟩ := gtI e34
          refine AWp.rd hT hA {} rfl (by (repeat (cbv; simp only [c24, f29, f30, f35, f36])); first | done | cbv) (by kernel_rfl) (lb rfl) ?_
          refine nT ?_
          rcases tf (A.deq [(.int .i64 a25), (.int .i64 a26), (.int .i64 a27)] [(.int .i64 a31), (.int .i64 a32), (.int .i64 a33)]) with c37 | c37
          · replace hsK38 := cT c37 hsK38
            refine AWp.cdF rfl (by first | rfl | simp only [c24, c37, Bool.not_true, Bool.not_false, cond_true, cond_false]) ?_
            refine AWp.skip ?_
            refine nB ?_
            refine nT ?_
            refine AWp.rg hT hA {} (by (repeat (cbv; simp only [c24, c37])); first | done | cbv) (lb rfl) ?_
            exact nT ⟨_, (soI hsK38).symm, rfl, (by first | (cbv; done) | ((repeat (cbv; simp only [c24, c37])); first | done | cbv))⟩
          · replace hsK38 := cF c37 hsK38
            refine AWp.cdT rfl (by first | rfl | simp only [c24, c37, Bool.not_true, Bool.not_false, cond_true, cond_false]) ?_
            refine AWp.seq ?_
            refine AWp.rg hT hA {} (by (repeat (cbv; simp only [c24, c37])); first | done | cbv) (lb rfl) ?_
            refine nT ?_
            refine AWp.ret ?_
            refine rB ?_
            refine rT ?_
            refine rT ?_
            refine exL hsK38 fun hx => ?_
            subst hx
            refine oxR ?_
            replace hkK38 := (eR (hK38 _ hkK38))
            refine rB ?_
            refine rT ?_
            cases soI hkK38
            exact ⟨rfl, rfl, rfl, lb rfl, _, rfl⟩
        · replace hsK38 := cF c24 hsK38
          refine AWp.cdF rfl (by first | rfl | simp only [c24, Bool.not_true, Bool.not_false, cond_true, cond_false]) ?_
          refine AWp.exit ?_
          refine xT ?_
          refine xT ?_
          refine exL hsK38 fun hx => ?_
          subst hx
          exact oxI ⟨rfl, hkK38, (by first | (cbv; done) | ((repeat (cbv; simp only [c24])); first | done | cbv))⟩
      · rintro _ ⟨hkK38, rfl⟩
        have h := (eL (hK38 _ hkK38))
        refine xB ?_
        refine nT ?_
        refine AWp.seq ?_
        refine AWp.rg hT hA {} (by cbv) (lb rfl) ?_
        refine nT ?_
        refine AWp.ret ?_
        cases soI h
        exact ⟨rfl, rfl, rfl, lb rfl, _, rfl⟩

theorem R126w {A : Ar} (hA : A = Ar.std) {x1 : Int} {v2 : Bool} (h : R126 A x1 = some v2) : ACall Try.prog 126 [(.d (.int .i64 x1))] [] (.d (.bool v2)) [] := by
  unfold R126 at h
  refine ACall.enter hT (fn := Try.f126) Try.func126 rfl (by decide) (by simp [Try.f126]) rfl rfl rfl rfl (lb rfl) ?_
  refine AWp.seq ?_
  refine AWp.rg hT hA {} (by cbv) (lb rfl) ?_
  refine nT ?_
  refine AWp.seq ?_
  refine AWp.rg hT hA { tk := [5] } (by cbv) (lb rfl) ?_
  refine nT ?_
  refine AWp.ret ?_
  cases soI h
  exact ⟨rfl, rfl, rfl, lb rfl, _, rfl⟩

theorem R114w {A : Ar} (hA : A = Ar.std) {x1 : Int} {x2 : Int} {v12 : Int} (h : R114 A x1 x2 = some v12) : ACall Try.prog 114 [(.d (.int .i64 x1)), (.d (.int .i64 x2))] [] (.d (.int .i64 v12)) [] := by
  unfold R114 at h
  refine ACall.enter hT (fn := Try.f114) Try.func114 rfl (by decide) (by simp [Try.f114]) rfl rfl rfl rfl (lb rfl) ?_
  refine AWp.seq ?_
  refine AWp.rg hT hA {} (by cbv) (lb rfl) ?_
  refine nT ?_
  refine AWp.seq ?_
  refine AWp.region ?_
  obtain ⟨r4, e3, h⟩ := bindS h
  refine AOps.cc hT hA {} (by cbv) (lb rfl) (R126w hA e3) rfl (.inl rfl) rfl rfl rfl (lb rfl) rfl rfl ?_
  refine AOps.cd hT hA {} (by cbv) (lb rfl) ?_
  refine nT ?_
  refine AWp.seq ?_
  refine AWp.region ?_
  obtain ⟨r6, e5, h⟩ := bindS h
  refine AOps.cc hT hA {} (by cbv) (lb rfl) (R126w hA e5) rfl (.inl rfl) rfl rfl rfl (lb rfl) rfl rfl ?_
  refine AOps.cd hT hA {} (by cbv) (lb rfl) ?_
  refine nT ?_
  refine AWp.seq ?_
  refine AWp.seq ?_
  refine AWp.rg hT hA {} (by cbv) (lb rfl) ?_
  refine nT ?_
  rcases tf r4 with c7 | c7
  · replace h := cT c7 h
    refine AWp.cdT rfl (by first | rfl | simp only [c7, Bool.not_true, Bool.not_false, cond_true, cond_false]) ?_
    refine AWp.seq ?_
    refine AWp.seq ?_
    refine AWp.rg hT hA {} (by (repeat (cbv; simp only [c7])); first | done | cbv) (lb rfl) ?_
    refine nT ?_
    rcases tf r6 with c8 | c8
    · replace h := cT c8 h
      refine AWp.cdT rfl (by first | rfl | simp only [c7, c8, Bool.not_true, Bool.not_false, cond_true, cond_false]) ?_
      refine AWp.seq ?_
      refine AWp.rg hT hA {} (by (repeat (cbv; simp only [c7, c8])); first | done | cbv) (lb rfl) ?_
      refine nT ?_
      refine AWp.ret ?_
      refine rT ?_
      refine rT ?_
      cases soI h
      exact ⟨rfl, rfl, rfl, lb rfl, _, rfl⟩
    · replace h := cF c8 h
      refine AWp.cdF rfl (by first | rfl | simp only [c7, c8, Bool.not_true, Bool.not_false, cond_true, cond_false]) ?_
      refine AWp.skip ?_
      refine nT ?_
      refine AWp.seq ?_
      refine AWp.rg hT hA {} (by (repeat (cbv; simp only [c7, c8])); first | done | cbv) (lb rfl) ?_
      refine nT ?_
      refine AWp.ret ?_
      refine rT ?_
      cases soI h
      exact ⟨rfl, rfl, rfl, lb rfl, _, rfl⟩
  · replace h := cF c7 h
    refine AWp.cdF rfl (by first | rfl | simp only [c7, Bool.not_true, Bool.not_false, cond_true, cond_false]) ?_
    refine AWp.skip ?_
    refine nT ?_
    refine AWp.seq ?_
    refine AWp.seq ?_
    refine AWp.rg hT hA {} (by (repeat (cbv; simp only [c7])); first | done | cbv) (lb rfl) ?_
    refine nT ?_
    rcases tf r6 with c9 | c9
    · replace h := cT c9 h
      refine AWp.cdT rfl (by first | rfl | simp only [c7, c9, Bool.not_true, Bool.not_false, cond_true, cond_false]) ?_
      refine AWp.seq ?_
      refine AWp.rg hT hA {} (by (repeat (cbv; simp only [c7, c9])); first | done | cbv) (lb rfl) ?_
      refine nT ?_
      refine AWp.ret ?_
      refine rT ?_
      cases soI h
      exact ⟨rfl, rfl, rfl, lb rfl, _, rfl⟩
    · replace h := cF c9 h
      refine AWp.cdF rfl (by first | rfl | simp only [c7, c9, Bool.not_true, Bool.not_false, cond_true, cond_false]) ?_
      refine AWp.skip ?_
      refine nT ?_
      refine AWp.seq ?_
      refine AWp.seq ?_
      refine AWp.rg hT hA {} (by (repeat (cbv; simp only [c7, c9])); first | done | cbv) (lb rfl) ?_
      refine nT ?_
      rcases tf (A.zlt x1 x2) with c10 | c10
      · replace h := cT c10 h
        refine AWp.cdT rfl (by first | rfl | simp only [c7, c9, c10, Bool.not_true, Bool.not_false, cond_true, cond_false]) ?_
        refine AWp.seq ?_
        refine AWp.rg hT hA {} (by (repeat (cbv; simp only [c7, c9, c10])); first | done | cbv) (lb rfl) ?_
        refine nT ?_
        refine AWp.ret ?_
        refine rT ?_
        cases soI h
        exact ⟨rfl, rfl, rfl, lb rfl, _, rfl⟩
      · replace h := cF c10 h
        refine AWp.cdF rfl (by first | rfl | simp only [c7, c9, c10, Bool.not_true, Bool.not_false, cond_true, cond_false]) ?_
        refine AWp.skip ?_
        refine nT ?_
        refine AWp.seq ?_
        refine AWp.seq ?_
        refine AWp.rg hT hA {} (by (repeat (cbv; simp only [c7, c9, c10])); first | done | cbv) (lb rfl) ?_
        refine nT ?_
        rcases tf (A.zlt x2 x1) with c11 | c11
        · replace h := cT c11 h
          refine AWp.cdT rfl (by first | rfl | simp only [c7, c9, c10, c11, Bool.not_true, Bool.not_false, cond_true, cond_false]) ?_
          refine AWp.seq ?_
          refine AWp.rg hT hA {} (by (repeat (cbv; simp only [c7, c9, c10, c11])); first | done | cbv) (lb rfl) ?_
          refine nT ?_
          refine AWp.ret ?_
          refine rT ?_
          cases soI h
          exact ⟨rfl, rfl, rfl, lb rfl, _, rfl⟩
        · replace h := cF c11 h
          refine AWp.cdF rfl (by first | rfl | simp only [c7, c9, c10, c11, Bool.not_true, Bool.not_false, cond_true, cond_false]) ?_
          refine AWp.skip ?_
          refine nT ?_
          refine AWp.seq ?_
          refine AWp.rg hT hA {} (by (repeat (cbv; simp only [c7, c9, c10, c11])); first | done | cbv) (lb rfl) ?_
          refine nT ?_
          refine AWp.ret ?_
          cases soI h
          exact ⟨rfl, rfl, rfl, lb rfl, _, rfl⟩

theorem R115w {A : Ar} (hA : A = Ar.std) {x1 : List D} {x2 : List D} {v33 : Int} (h : R115 A x1 x2 = some v33) : ACall Try.prog 115 [(.d (.list 1 x1)), (.d (.list 1 x2))] [] (.d (.int .i64 v33)) [] := by
  unfold R115 at h
  refine ACall.enter hT (fn := Try.f115) Try.func115 rfl (by decide) (by simp [Try.f115]) rfl rfl rfl rfl (lb rfl) ?_
  refine AWp.seq ?_
  refine AWp.rg hT hA {} (by cbv) (lb rfl) ?_
  refine nT ?_
  refine AWp.seq ?_
  refine AWp.seq ?_
  refine AWp.rg hT hA {} (by cbv) (lb rfl) ?_
  refine nT ?_
  refine AWp.block ?_
  obtain ⟨xK31, hxK31, K31, hK31, hkK31⟩ := bindK h
  refine AWp.cutX 0 [0, 1] [] 0 (lb rfl) (fun τ => K31 (.inl ()) = some v33 ∧ τ = { env := [(0, (.d (.list 1 x1))), (1, (.d (.list 1 x2)))], heap := [], n := 36 }) ?_ ?_
  · skip
    refine AWp.iter hxK31 [0, 1, 9, 10, 11] [] 0 (lb rfl) (fun v16 => { env := [(0, (.d (.list 1 x1))), (1, (.d (.list 1 x2))), (9, (.d (.list 1 x1))), (10, (.d (.int .i64 (A.len x1)))), (11, (.d (.int .i64 v16)))], heap := [], n := 36 }) ⟨rfl, (by cbv)⟩ ?_
    rintro v16 eK31 hsK31
    dsimp only [R115L0] at hsK31
    refine AWp.seq ?_
    refine AWp.rg hT hA {} (by cbv) (lb rfl) ?_
    refine nT ?_
    refine AWp.seq ?_
    rcases tf (A.zlt v16 (A.len x1)) with c17 | c17
    · replace hsK31 := cT c17 hsK31
      refine AWp.cdT rfl (by first | rfl | simp only [c17, Bool.not_true, Bool.not_false, cond_true, cond_false]) ?_
      refine AWp.skip ?_
      refine nT ?_
      refine AWp.seq ?_
      refine AWp.block ?_
      refine AWp.seq ?_
      obtain ⟨a18, e19, hsK31⟩ := bindS hsK31
      obtain ⟨f20, f21⟩ := gtI e19
      refine AWp.rg hT hA {} (by (repeat (cbv; simp only [c17, f20, f21])); first | done | cbv) (lb rfl) ?_
      refine nT ?_
      refine AWp.seq ?_
      refine AWp.seq ?_
      refine AWp.rg hT hA {} (by (repeat (cbv; simp only [c17])); first | done | cbv) (lb rfl) ?_
      refine nT ?_
      rcases tf (A.zle (A.len x2) v16) with c22 | c22
      · replace hsK31 := cT c22 hsK31
        refine AWp.cdT rfl (by first | rfl | simp only [c17, c22, Bool.not_true, Bool.not_false, cond_true, cond_false]) ?_
        refine AWp.seq ?_
        refine AWp.rg hT hA {} (by (repeat (cbv; simp only [c17, c22])); first | done | cbv) (lb rfl) ?_
        refine nT ?_
        refine AWp.ret ?_
        refine rT ?_
        refine rB ?_
        refine rT ?_
        refine rT ?_
        refine exL hsK31 fun hx => ?_
        subst hx
        refine oxR ?_
        replace hkK31 := (eR (hK31 _ hkK31))
        refine rB ?_
        refine rT ?_
        cases soI hkK31
        exact ⟨rfl, rfl, rfl, lb rfl, _, rfl⟩
      · replace hsK31 := cF c22 hsK31
        refine AWp.cdF rfl (by first | rfl | simp only [c17, c22, Bool.not_true, Bool.not_false, cond_true, cond_false]) ?_
        refine AWp.skip ?_
        refine nT ?_
        refine AWp.seq ?_
        obtain ⟨a23, e24, hsK31⟩ := bindS hsK31
        obtain ⟨f25, f26⟩ := gtI e24
        refine AWp.rg hT hA {} (by (repeat (cbv; simp only [c17, c22, f25, f26])); first | done | cbv) (lb rfl) ?_
        refine nT ?_
        refine AWp.seq ?_
        refine AWp.region ?_
        obtain ⟨r28, e27, hsK31⟩ := bindS hsK31
        refine AOps.cc hT hA { tk := [26] } (by (repeat (cbv; simp only [c17, c22])); first | done | cbv) (lb rfl) (R114w hA e27) rfl (.inl rfl) rfl rfl rfl (lb rfl) rfl rfl ?_
        refine AOps.cd hT hA { tk := [26] } (by (repeat (cbv; simp only [c17, c22])); first | done | cbv) (lb rfl) ?_
        refine nT ?_
        refine AWp.seq ?_
        refine AWp.rg hT hA {} (by (repeat (cbv; simp only [c17, c22])); first | done | cbv) (lb rfl) ?_
        refine nT ?_
        rcases tf (A.zeq r28 0) with c29 | c29
        · replace hsK31 := cT c29 hsK31
          refine AWp.cdF rfl (by first | rfl | simp only [c17, c22, c29, Bool.not_true, Bool.not_false, cond_true, cond_false]) ?_
          refine AWp.skip ?_
          refine nB ?_
          refine nT ?_
          refine AWp.rg hT hA {} (by (repeat (cbv; simp only [c17, c22, c29])); first | done | cbv) (lb rfl) ?_
          exact nT ⟨_, (soI hsK31).symm, rfl, (by first | (cbv; done) | ((repeat (cbv; simp only [c17, c22, c29])); first | done | cbv))⟩
        · replace hsK31 := cF c29 hsK31
          refine AWp.cdT rfl (by first | rfl | simp only [c17, c22, c29, Bool.not_true, Bool.not_false, cond_true, cond_false]) ?_
          refine AWp.seq ?_
          refine AWp.rg hT hA { tk := [8, 29] } (by (repeat (cbv; simp only [c17, c22, c29])); first | done | cbv) (lb rfl) ?_
          refine nT ?_
          refine AWp.ret ?_
          refine rB ?_
          refine rT ?_
          refine rT ?_
          refine exL hsK31 fun hx => ?_
          subst hx
          refine oxR ?_
          replace hkK31 := (eR (hK31 _ hkK31))
          refine rB ?_
          refine rT ?_
          cases soI hkK31
          exact ⟨rfl, rfl, rfl, lb rfl, _, rfl⟩
    · replace hsK31 := cF c17 hsK31
      refine AWp.cdF rfl (by first | rfl | simp only [c17, Bool.not_true, Bool.not_false, cond_true, cond_false]) ?_
      refine AWp.exit ?_
      refine xT ?_
      refine xT ?_
      refine exL hsK31 fun hx => ?_
      subst hx
      exact oxI ⟨rfl, hkK31, (by first | (cbv; done) | ((repeat (cbv; simp only [c17])); first | done | cbv))⟩
  · rintro _ ⟨hkK31, rfl⟩
    have h := (eL (hK31 _ hkK31))
    refine xB ?_
    refine nT ?_
    refine AWp.seq ?_
    refine AWp.seq ?_
    refine AWp.rg hT hA {} (by cbv) (lb rfl) ?_
    refine nT ?_
    rcases tf (A.zlt (A.len x1) (A.len x2)) with c32 | c32
    · replace h := cT c32 h
      refine AWp.cdT rfl (by first | rfl | simp only [c32, Bool.not_true, Bool.not_false, cond_true, cond_false]) ?_
      refine AWp.seq ?_
      refine AWp.rg hT hA {} (by (repeat (cbv; simp only [c32])); first | done | cbv) (lb rfl) ?_
      refine nT ?_
      refine AWp.ret ?_
      refine rT ?_
      cases soI h
      exact ⟨rfl, rfl, rfl, lb rfl, _, rfl⟩
    · replace h := cF c32 h
      refine AWp.cdF rfl (by first | rfl | simp only [c32, Bool.not_true, Bool.not_false, cond_true, cond_false]) ?_
      refine AWp.skip ?_
      refine nT ?_
      refine AWp.seq ?_
      refine AWp.rg hT hA {} (by (repeat (cbv; simp only [c32])); first | done | cbv) (lb rfl) ?_
      refine nT ?_
      refine AWp.ret ?_
      cases soI h
      exact ⟨rfl, rfl, rfl, lb rfl, _, rfl⟩

theorem R108w {A : Ar} (hA : A = Ar.std) {x1 : Int} {x2 : Int} {x3 : Int} {x4 : Int} {v7 : Int} (h : R108 A x1 x2 x3 x4 = some v7) : ACall Try.prog 108 [(.d (.agg [(.int .i64 x1), (.int .i64 x2)])), (.d (.agg [(.int .i64 x3), (.int .i64 x4)]))] [] (.d (.int .i64 v7)) [] := by
  unfold R108 at h
  refine ACall.enter hT (fn := Try.f108) Try.func108 rfl (by decide) (by simp [Try.f108]) rfl rfl rfl rfl (lb rfl) ?_
  refine AWp.seq ?_
  refine AWp.rg hT hA {} (by cbv) (lb rfl) ?_
  refine nT ?_
  refine AWp.seq ?_
  refine AWp.freezeBox 2 [(.int .i64 x1), (.int .i64 x2)] rfl rfl ?_
  refine AWp.freezeBox 3 [(.int .i64 x3), (.int .i64 x4)] rfl rfl ?_
  refine AWp.regionDraw rfl (lb rfl) ?_
  obtain ⟨r6, e5, h⟩ := bindS h
  refine DOps.c0 hT hA { tk := [7] } rfl (by cbv) (R115w hA e5) rfl rfl (lb rfl) rfl rfl ?_
  refine DOps.cd hT hA { tk := [7] } rfl (by cbv) (by kernel_rfl) ?_
  refine nT ?_
  refine AWp.ret ?_
  cases soI h
  exact ⟨rfl, rfl, rfl, lb rfl, _, rfl⟩

theorem R85w {A : Ar} (hA : A = Ar.std) {x1 : List D} {x2 : Int} {x3 : Int} {v119 : List D} {v120 : Bool} (h : R85 A x1 x2 x3 = some (v119, v120)) : ACall Try.prog 85 [(.d (.list 2 x1)), (.d (.int .i64 x2)), (.d (.int .i64 x3))] [] (.tuple [(.d (.agg v119)), (.d (.bool v120))]) [] := by
  unfold R85 at h
  refine ACall.enter hT (fn := Try.f85) Try.func85 rfl (by decide) (by simp [Try.f85]) rfl rfl rfl rfl (lb rfl) ?_
  refine AWp.seq ?_
  refine AWp.rg hT hA { arr := [6] } (by cbv) (lb rfl) ?_
  refine nT ?_
  refine AWp.seq ?_
  refine AWp.rg hT hA { arr := [8] } (by cbv) (lb rfl) ?_
  refine nT ?_
  refine AWp.seq ?_
  refine AWp.seq ?_
  refine AWp.rg hT hA {} (by cbv) (lb rfl) ?_
  refine nT ?_
  refine AWp.block ?_
  obtain ⟨xK105, hxK105, K105, hK105, hkK105⟩ := bindK h
  refine AWp.cutX 0 [6, 8] [] 2 (lb rfl) (fun τ => ∃ v101, K105 (.inl v101) = some (v119, v120) ∧ τ = { env := [(6, (.ptr 0 0)), (8, (.ptr 1 0))], heap := [(.arr 1 (A.rep (Int.ofNat 6) (.int .u8 0))), (.arr 1 v101)], n := 58 }) ?_ ?_
  · skip
    refine AWp.iter hxK105 [0, 1, 2, 6, 8, 11, 12, 13] [] 2 (lb rfl) (fun (v48, v49) => { env := [(0, (.d (.list 2 x1))), (1, (.d (.int .i64 x2))), (2, (.d (.int .i64 x3))), (6, (.ptr 0 0)), (8, (.ptr 1 0)), (11, (.d (.list 2 x1))), (12, (.d (.int .i64 (A.len x1)))), (13, (.d (.int .i64 v48)))], heap := [(.arr 1 (A.rep (Int.ofNat 6) (.int .u8 0))), (.arr 1 v49)], n := 58 }) ⟨rfl, (by cbv)⟩ ?_
    rintro ⟨v48, v49⟩ eK105 hsK105
    dsimp only [R85L0] at hsK105
    refine AWp.seq ?_
    refine AWp.rg hT hA {} (by cbv) (lb rfl) ?_
    refine nT ?_
    refine AWp.seq ?_
    rcases tf (A.zlt v48 (A.len x1)) with c50 | c50
    · replace hsK105 := cT c50 hsK105
      refine AWp.cdT rfl (by first | rfl | simp only [c50, Bool.not_true, Bool.not_false, cond_true, cond_false]) ?_
      refine AWp.skip ?_
      refine nT ?_
      refine AWp.seq ?_
      refine AWp.block ?_
      refine AWp.seq ?_
      obtain ⟨⟨a51, a52⟩, e53, hsK105⟩ := bindS hsK105
      obtain ⟨f54, f55⟩ := gtI e53
      refine AWp.rg hT hA { tk := [17] } (by (repeat (cbv; simp only [c50, f54, f55])); first | done | cbv) (lb rfl) ?_
      refine nT ?_
      refine AWp.seq ?_
      refine AWp.seq ?_
      obtain ⟨v70, hvK71, hsK105⟩ := bindS hsK105
      refine AWp.cutN [0, 1, 2, 6, 8, 10, 11, 12, 13, 45] [] 2 (lb rfl) (fun τ => τ = { env := [(0, (.d (.list 2 x1))), (1, (.d (.int .i64 x2))), (2, (.d (.int .i64 x3))), (6, (.ptr 0 0)), (8, (.ptr 1 0)), (10, (.lbox [(.d (.int .i64 a51)), (.d (.int .i64 a52))])), (11, (.d (.list 2 x1))), (12, (.d (.int .i64 (A.len x1)))), (13, (.d (.int .i64 v48))), (45, (.d (.bool v70)))], heap := [(.arr 1 (A.rep (Int.ofNat 6) (.int .u8 0))), (.arr 1 v49)], n := 58 }) ?_ ?_
      · skip
        refine AWp.regionDraw rfl (lb rfl) ?_
        obtain ⟨r57, e56, hvK71⟩ := bindS hvK71
        refine DOps.c0 hT hA {} rfl (by (repeat (cbv; simp only [c50])); first | done | cbv) (R65w hA e56) rfl rfl (lb rfl) rfl rfl ?_
        rcases tf r57 with c58 | c58
        · replace hvK71 := cT c58 hvK71
          obtain ⟨r60, e59, hvK71⟩ := bindS hvK71
          refine DOps.c0 hT hA {} rfl (by (repeat (cbv; simp only [c50, c58])); first | done | cbv) (R65w hA e59) rfl rfl (lb rfl) rfl rfl ?_
          rcases tf r60 with c61 | c61
          · replace hvK71 := cT c61 hvK71
            rcases tf (A.zlt 0 v48) with c62 | c62
            · replace hvK71 := cT c62 hvK71
              obtain ⟨⟨a63, a64⟩, e65, hvK71⟩ := bindS hvK71
              obtain ⟨f66, f67⟩ := gtI e65
              obtain ⟨r69, e68, hvK71⟩ := bindS hvK71
              refine DOps.c0 hT hA {} rfl (by (repeat (cbv; simp only [c50, c58, c61, c62, f66, f67])); first | done | cbv) (R108w hA e68) rfl rfl (lb rfl) rfl rfl ?_
              refine DOps.cd hT hA {} rfl (by (repeat (cbv; simp only [c50, c58, c61, c62, f66, f67])); first | done | cbv) (by kernel_rfl) ?_
              cases soI hvK71
              exact oNi ⟨rfl, (by first | (cbv; done) | ((repeat (cbv; simp only [c50, c58, c61, c62])); first | done | cbv))⟩
            · replace hvK71 := cF c62 hvK71
              refine DOps.cd hT hA {} rfl (by (repeat (cbv; simp only [c50, c58, c61, c62])); first | done | cbv) (by kernel_rfl) ?_
              cases soI hvK71
              exact oNi ⟨rfl, (by first | (cbv; done) | ((repeat (cbv; simp only [c50, c58, c61, c62])); first | done | cbv))⟩
          · replace hvK71 := cF c61 hvK71
            refine DOps.cd hT hA {} rfl (by (repeat (cbv; simp only [c50, c58, c61])); first | done | cbv) (by kernel_rfl) ?_
            cases soI hvK71
            exact oNi ⟨rfl, (by first | (cbv; done) | ((repeat (cbv; simp only [c50, c58, c61])); first | done | cbv))⟩
        · replace hvK71 := cF c58 hvK71
          refine DOps.cd hT hA {} rfl (by (repeat (cbv; simp only [c50, c58])); first | done | cbv) (by kernel_rfl) ?_
          cases soI hvK71
          exact oNi ⟨rfl, (by first | (cbv; done) | ((repeat (cbv; simp only [c50, c58])); first | done | cbv))⟩
      · rintro _ rfl
        refine nT ?_
        rcases tf v70 with c72 | c72
        · replace hsK105 := cT c72 hsK105
          refine AWp.cdT rfl (by first | rfl | simp only [c72, Bool.not_true, Bool.not_false, cond_true, cond_false]) ?_
          refine AWp.seq ?_
          obtain ⟨l77, e73, hsK105⟩ := bindS hsK105
          obtain ⟨f74, f75, f76⟩ := gaI e73
          obtain ⟨_, e81, hsK105⟩ := bindS hsK105
          have f80 := ckI e81
          obtain ⟨_, e78, hsK105⟩ := bindS hsK105
          have f79 := ckI e78
          refine AWp.rg hT hA { tk := [46] } (by (repeat (cbv; simp only [c72, f74, f75, f76, f74, f75, f76, f79, f80])); first | done | cbv) (lb rfl) ?_
          refine nT ?_
          obtain ⟨_, e82, hsK105⟩ := bindS hsK105
          have f84 := ckI e82
          obtain ⟨_, e83, hsK105⟩ := bindS hsK105
          have f85 := ckI e83
          refine AWp.ret ?_
          refine rT ?_
          refine rB ?_
          refine rT ?_
          refine rT ?_
          refine exL hsK105 fun hx => ?_
          subst hx
          refine oxR ?_
          replace hkK105 := (eR (hK105 _ hkK105))
          refine rB ?_
          refine rT ?_
          cases soI hkK105
          exact ⟨(rs2 (resCk rfl rfl rfl rfl (lnN hA (by assumption)) (onN hA (by assumption))) rfl), rfl, rfl, lb rfl, _, rfl⟩
        · replace hsK105 := cF c72 hsK105
          refine AWp.cdF rfl (by first | rfl | simp only [c72, Bool.not_true, Bool.not_false, cond_true, cond_false]) ?_
          refine AWp.skip ?_
          refine nT ?_
          obtain ⟨_, e86, hsK105⟩ := bindS hsK105
          have f88 := ckI e86
          obtain ⟨_, e87, hsK105⟩ := bindS hsK105
          have f89 := ckI e87
          obtain ⟨a90, e91, hsK105⟩ := bindS hsK105
          have f92 := gcI e91
          obtain ⟨_, e93, hsK105⟩ := bindS hsK105
          have f94 := nkI e93
          obtain ⟨_, e95, hsK105⟩ := bindS hsK105
          have f97 := ckI e95
          obtain ⟨_, e96, hsK105⟩ := bindS hsK105
          have f98 := ckI e96
          obtain ⟨d99, e100, hsK105⟩ := bindS hsK105
          refine AWp.rd hT hA { tk := [54] } rfl (by (repeat (cbv; simp only [c72, f88, f89, f92, f94, f97, f98, e100])); first | done | cbv) (by kernel_rfl) (lb rfl) ?_
          refine nB ?_
          refine nT ?_
          refine AWp.rg hT hA {} (by (repeat (cbv; simp only [c72])); first | done | cbv) (lb rfl) ?_
          exact nT ⟨_, (soI hsK105).symm, rfl, (by first | (cbv; done) | ((repeat (cbv; simp only [c72])); first | done | cbv))⟩
    · replace hsK105 := cF c50 hsK105
      refine AWp.cdF rfl (by first | rfl | simp only [c50, Bool.not_true, Bool.not_false, cond_true, cond_false]) ?_
      refine AWp.exit ?_
      refine xT ?_
      refine xT ?_
      refine exL hsK105 fun hx => ?_
      subst hx
      exact oxI ⟨rfl, _, hkK105, (by first | (cbv; done) | ((repeat (cbv; simp only [c50])); first | done | cbv))⟩
  · rintro _ ⟨v101, hkK105, rfl⟩
    have h := (eL (hK105 _ hkK105))
    refine xB ?_
    refine nT ?_
    refine AWp.seq ?_
    obtain ⟨l110, e106, h⟩ := bindS h
    obtain ⟨f107, f108, f109⟩ := gaI e106
    obtain ⟨_, e114, h⟩ := bindS h
    have f113 := ckI e114
    obtain ⟨_, e111, h⟩ := bindS h
    have f112 := ckI e111
    refine AWp.rg hT hA { tk := [57] } (by (repeat (cbv; simp only [f107, f108, f109, f107, f108, f109, f112, f113])); first | done | cbv) (lb rfl) ?_
    refine nT ?_
    obtain ⟨_, e115, h⟩ := bindS h
    have f117 := ckI e115
    obtain ⟨_, e116, h⟩ := bindS h
    have f118 := ckI e116
    refine AWp.ret ?_
    cases soI h
    exact ⟨(rs2 (resCk rfl rfl rfl rfl (lnN hA (by assumption)) (onN hA (by assumption))) rfl), rfl, rfl, lb rfl, _, rfl⟩

theorem R86w {A : Ar} (hA : A = Ar.std) {x1 : List D} {v77 : List D} (h : R86 A x1 = some v77) : ACall Try.prog 86 [(.d (.agg x1))] [] (.own 2 v77) [] := by
  unfold R86 at h
  refine ACall.enter hT (fn := Try.f86) Try.func86 rfl (by decide) (by simp [Try.f86]) rfl rfl rfl rfl (lb rfl) ?_
  refine AWp.seq ?_
  obtain ⟨_, e3, h⟩ := bindS h
  have f2 := ckI e3
  refine AWp.rg hT hA { arr := [1] } (by (repeat (cbv; simp only [f2])); first | done | cbv) (lb rfl) ?_
  refine nT ?_
  refine AWp.seq ?_
  refine AWp.rg hT hA {} (by cbv) (lb rfl) ?_
  refine nT ?_
  refine AWp.seq ?_
  refine AWp.seq ?_
  obtain ⟨l8, e4, h⟩ := bindS h
  obtain ⟨f5, f6, f7⟩ := gaI e4
  refine AWp.rg hT hA {} (by (repeat (cbv; simp only [f5, f6, f7, f5, f6, f7])); first | done | cbv) (lb rfl) ?_
  refine nT ?_
  refine AWp.block ?_
  obtain ⟨xK76, hxK76, K76, hK76, hkK76⟩ := bindK h
  refine AWp.cutX 0 [3] [] 1 (lb rfl) (fun τ => ∃ v75, K76 v75 = some v77 ∧ τ = { env := [(3, (.own 2 v75))], heap := [(.arr 1 x1)], n := 29 }) ?_ ?_
  · skip
    refine AWp.iter hxK76 [3, 8, 9] [] 1 (lb rfl) (fun (v41, v42) => { env := [(3, (.own 2 v41)), (8, (.d (.agg l8))), (9, (.d (.int .i64 v42)))], heap := [(.arr 1 x1)], n := 29 }) ⟨rfl, (by first | (cbv; done) | ((repeat (cbv; simp only [f5, f6, f7])); first | done | cbv))⟩ ?_
    rintro ⟨v41, v42⟩ eK76 hsK76
    dsimp only [R86L1] at hsK76
    refine AWp.seq ?_
    refine AWp.rg hT hA {} (by cbv) (lb rfl) ?_
    refine nT ?_
    refine AWp.seq ?_
    rcases tf (A.zlt v42 6) with c43 | c43
    · replace hsK76 := cT c43 hsK76
      refine AWp.cdT rfl (by first | rfl | simp only [c43, Bool.not_true, Bool.not_false, cond_true, cond_false]) ?_
      refine AWp.skip ?_
      refine nT ?_
      refine AWp.seq ?_
      refine AWp.block ?_
      refine AWp.seq ?_
      obtain ⟨_, e46, hsK76⟩ := bindS hsK76
      have f44 := ckI e46
      obtain ⟨_, e47, hsK76⟩ := bindS hsK76
      have f45 := ckI e47
      obtain ⟨a49, e48, hsK76⟩ := bindS hsK76
      have f50 := gcI e48
      refine AWp.rg hT hA {} (by (repeat (cbv; simp only [c43, f44, f45, f50])); first | done | cbv) (lb rfl) ?_
      refine nT ?_
      refine AWp.seq ?_
      refine AWp.region ?_
      obtain ⟨r52, e51, hsK76⟩ := bindS hsK76
      refine AOps.cc hT hA {} (by (repeat (cbv; simp only [c43])); first | done | cbv) (lb rfl) (R76w hA e51) rfl (.inr rfl) rfl rfl rfl (lb rfl) rfl rfl ?_
      refine AOps.cd hT hA {} (by (repeat (cbv; simp only [c43])); first | done | cbv) (lb rfl) ?_
      refine nT ?_
      refine AWp.block ?_
      obtain ⟨xK74, hxK74, K74, hK74, hkK74⟩ := bindK hsK76
      refine AWp.cutX 2 [3, 8, 9] [] 1 (lb rfl) (fun τ => ∃ v73, K74 v73 = some eK76 ∧ τ = { env := [(3, (.own 2 v73)), (8, (.d (.agg l8))), (9, (.d (.int .i64 v42)))], heap := [(.arr 1 x1)], n := 29 }) ?_ ?_
      · skip
        refine AWp.iter hxK74 [3, 4, 8, 9, 14, 15, 16] [] 1 (lb rfl) (fun (v62, v63) => { env := [(3, (.own 2 v62)), (4, (.d (.int .i64 v42))), (8, (.d (.agg l8))), (9, (.d (.int .i64 v42))), (14, (.own 1 r52)), (15, (.d (.int .i64 (A.len r52)))), (16, (.d (.int .i64 v63)))], heap := [(.arr 1 x1)], n := 29 }) ⟨rfl, (by first | (cbv; done) | ((repeat (cbv; simp only [c43])); first | done | cbv))⟩ ?_
        rintro ⟨v62, v63⟩ eK74 hsK74
        dsimp only [R86L0] at hsK74
        refine AWp.seq ?_
        refine AWp.rg hT hA {} (by cbv) (lb rfl) ?_
        refine nT ?_
        refine AWp.seq ?_
        rcases tf (A.zlt v63 (A.len r52)) with c64 | c64
        · replace hsK74 := cT c64 hsK74
          refine AWp.cdT rfl (by first | rfl | simp only [c64, Bool.not_true, Bool.not_false, cond_true, cond_false]) ?_
          refine AWp.skip ?_
          refine nT ?_
          refine AWp.seq ?_
          refine AWp.block ?_
          refine AWp.seq ?_
          obtain ⟨a65, e66, hsK74⟩ := bindS hsK74
          obtain ⟨f67, f68⟩ := gtI e66
          refine AWp.rg hT hA {} (by (repeat (cbv; simp only [c64, f67, f68])); first | done | cbv) (lb rfl) ?_
          refine nT ?_
          obtain ⟨l69, e70, hsK74⟩ := bindS hsK74
          obtain ⟨f71, f72⟩ := apI e70
          refine AWp.rg hT hA { tk := [3, 25] } (by (repeat (cbv; simp only [c64, f71, f72])); first | done | cbv) (lb rfl) ?_
          refine nB ?_
          refine nT ?_
          refine AWp.rg hT hA {} (by (repeat (cbv; simp only [c64])); first | done | cbv) (lb rfl) ?_
          exact nT ⟨_, (soI hsK74).symm, rfl, (by first | (cbv; done) | ((repeat (cbv; simp only [c64])); first | done | cbv))⟩
        · replace hsK74 := cF c64 hsK74
          refine AWp.cdF rfl (by first | rfl | simp only [c64, Bool.not_true, Bool.not_false, cond_true, cond_false]) ?_
          refine AWp.exit ?_
          refine xT ?_
          refine xT ?_
          refine exL hsK74 fun hx => ?_
          subst hx
          exact oxI ⟨rfl, _, hkK74, (by first | (cbv; done) | ((repeat (cbv; simp only [c64])); first | done | cbv))⟩
      · rintro _ ⟨v73, hkK74, rfl⟩
        have hsK76 := (hK74 _ hkK74)
        refine xB ?_
        refine nB ?_
        refine nT ?_
        refine AWp.rg hT hA {} (by cbv) (lb rfl) ?_
        exact nT ⟨_, (soI hsK76).symm, rfl, (by cbv)⟩
    · replace hsK76 := cF c43 hsK76
      refine AWp.cdF rfl (by first | rfl | simp only [c43, Bool.not_true, Bool.not_false, cond_true, cond_false]) ?_
      refine AWp.exit ?_
      refine xT ?_
      refine xT ?_
      refine exL hsK76 fun hx => ?_
      subst hx
      exact oxI ⟨rfl, _, hkK76, (by first | (cbv; done) | ((repeat (cbv; simp only [c43])); first | done | cbv))⟩
  · rintro _ ⟨v75, hkK76, rfl⟩
    have h := (hK76 _ hkK76)
    refine xB ?_
    refine nT ?_
    refine AWp.seq ?_
    refine AWp.rg hT hA { tk := [3, 28] } (by cbv) (lb rfl) ?_
    refine nT ?_
    refine AWp.ret ?_
    cases soI h
    exact ⟨rfl, rfl, rfl, lb rfl, _, rfl⟩

theorem R39w {A : Ar} (hA : A = Ar.std) {x1 : List D} {x2 : List D} {v160 : List D} {v161 : Int} (h : R39 A x1 x2 = some (v160, v161)) : ACall Try.prog 39 [(.d (.list 2 x1)), (.d (.list 2 x2))] [] (.tuple [(.d (.list 2 v160)), (.d (.int .i64 v161))]) [] := by
  unfold R39 at h
  refine ACall.enter hT (fn := Try.f39) Try.func39 rfl (by decide) (by simp [Try.f39]) rfl rfl rfl rfl (lb rfl) ?_
  refine AWp.seq ?_
  refine AWp.rg hT hA {} (by cbv) (lb rfl) ?_
  refine nT ?_
  refine AWp.seq ?_
  refine AWp.region ?_
  obtain ⟨⟨r4, r5⟩, e3, h⟩ := bindS h
  refine AOps.cc hT hA { tk := [17], arr := [6] } (by cbv) (lb rfl) (R85w hA e3) rfl (.inl rfl) rfl rfl rfl (lb rfl) rfl rfl ?_
  obtain ⟨_, e9, h⟩ := bindS h
  have f8 := ckI e9
  obtain ⟨_, e6, h⟩ := bindS h
  have f7 := ckI e6
  refine AOps.cd hT hA { tk := [17], arr := [6] } (by (repeat (cbv; simp only [f7, f8])); first | done | cbv) (lb rfl) ?_
  refine nT ?_
  refine AWp.seq ?_
  refine AWp.region ?_
  obtain ⟨⟨r11, r12⟩, e10, h⟩ := bindS h
  refine AOps.cc hT hA { tk := [22], arr := [8] } (by cbv) (lb rfl) (R85w hA e10) rfl (.inr rfl) rfl rfl rfl (lb rfl) rfl rfl ?_
  obtain ⟨_, e16, h⟩ := bindS h
  have f15 := ckI e16
  obtain ⟨_, e13, h⟩ := bindS h
  have f14 := ckI e13
  refine AOps.cd hT hA { tk := [22], arr := [8] } (by (repeat (cbv; simp only [f14, f15])); first | done | cbv) (lb rfl) ?_
  refine nT ?_
  refine AWp.seq ?_
  refine AWp.seq ?_
  obtain ⟨v18, hvK19, h⟩ := bindS h
  refine AWp.cutN [6, 8, 29] [] 2 (lb rfl) (fun τ => τ = { env := [(6, (.ptr 0 0)), (8, (.ptr 1 0)), (29, (.d (.bool v18)))], heap := [(.arr 1 (A.spl (A.rep (Int.ofNat 6) (.int .u8 0)) (A.zadd 0 (Int.ofNat 0)) r4)), (.arr 1 (A.spl (A.rep (Int.ofNat 6) (.int .u8 0)) (A.zadd 0 (Int.ofNat 0)) r11))], n := 54 }) ?_ ?_
  · skip
    rcases tf r5 with c17 | c17
    · replace hvK19 := cT c17 hvK19
      refine AWp.rg hT hA {} (by (repeat (cbv; simp only [c17])); first | done | cbv) (lb rfl) ?_
      cases soI hvK19
      exact oNi ⟨rfl, (by first | (cbv; done) | ((repeat (cbv; simp only [c17])); first | done | cbv))⟩
    · replace hvK19 := cF c17 hvK19
      refine AWp.rg hT hA {} (by (repeat (cbv; simp only [c17])); first | done | cbv) (lb rfl) ?_
      cases soI hvK19
      exact oNi ⟨rfl, (by first | (cbv; done) | ((repeat (cbv; simp only [c17])); first | done | cbv))⟩
  · rintro _ rfl
    refine nT ?_
    rcases tf v18 with c20 | c20
    · replace h := cT c20 h
      refine AWp.cdT rfl (by first | rfl | simp only [c20, Bool.not_true, Bool.not_false, cond_true, cond_false]) ?_
      refine AWp.seq ?_
      refine AWp.rg hT hA {} (by (repeat (cbv; simp only [c20])); first | done | cbv) (lb rfl) ?_
      refine nT ?_
      refine AWp.ret ?_
      refine rT ?_
      cases soI h
      exact ⟨rfl, rfl, rfl, lb rfl, _, rfl⟩
    · replace h := cF c20 h
      refine AWp.cdF rfl (by first | rfl | simp only [c20, Bool.not_true, Bool.not_false, cond_true, cond_false]) ?_
      refine AWp.skip ?_
      refine nT ?_
      refine AWp.seq ?_
      refine AWp.rg hT hA { arr := [10] } (by (repeat (cbv; simp only [c20])); first | done | cbv) (lb rfl) ?_
      refine nT ?_
      refine AWp.seq ?_
      refine AWp.seq ?_
      refine AWp.rg hT hA {} (by (repeat (cbv; simp only [c20])); first | done | cbv) (lb rfl) ?_
      refine nT ?_
      refine AWp.block ?_
      obtain ⟨xK152, hxK152, K152, hK152, hkK152⟩ := bindK h
      refine AWp.cutX 0 [10] [] 3 (lb rfl) (fun τ => ∃ v151, K152 v151 = some (v160, v161) ∧ τ = { env := [(10, (.ptr 2 0))], heap := [(.arr 1 (A.spl (A.rep (Int.ofNat 6) (.int .u8 0)) (A.zadd 0 (Int.ofNat 0)) r4)), (.arr 1 (A.spl (A.rep (Int.ofNat 6) (.int .u8 0)) (A.zadd 0 (Int.ofNat 0)) r11)), (.arr 1 v151)], n := 54 }) ?_ ?_
      · skip
        refine AWp.iter hxK152 [6, 8, 10, 30] [] 3 (lb rfl) (fun (v85, v86) => { env := [(6, (.ptr 0 0)), (8, (.ptr 1 0)), (10, (.ptr 2 0)), (30, (.d (.int .i64 v85)))], heap := [(.arr 1 (A.spl (A.rep (Int.ofNat 6) (.int .u8 0)) (A.zadd 0 (Int.ofNat 0)) r4)), (.arr 1 (A.spl (A.rep (Int.ofNat 6) (.int .u8 0)) (A.zadd 0 (Int.ofNat 0)) r11)), (.arr 1 v86)], n := 54 }) ⟨rfl, (by first | (cbv; done) | ((repeat (cbv; simp only [c20])); first | done | cbv))⟩ ?_
        rintro ⟨v85, v86⟩ eK152 hsK152
        dsimp only [R39L1] at hsK152
        refine AWp.seq ?_
        refine AWp.rg hT hA {} (by cbv) (lb rfl) ?_
        refine nT ?_
        refine AWp.seq ?_
        rcases tf (A.zlt v85 6) with c87 | c87
        · replace hsK152 := cT c87 hsK152
          refine AWp.cdT rfl (by first | rfl | simp only [c87, Bool.not_true, Bool.not_false, cond_true, cond_false]) ?_
          refine AWp.skip ?_
          refine nT ?_
          refine AWp.seq ?_
          refine AWp.block ?_
          refine AWp.seq ?_
          refine AWp.rg hT hA {} (by (repeat (cbv; simp only [c87])); first | done | cbv) (lb rfl) ?_
          refine nT ?_
          refine AWp.seq ?_
          refine AWp.region ?_
          obtain ⟨_, e88, hsK152⟩ := bindS hsK152
          have f90 := ckI e88
          obtain ⟨_, e89, hsK152⟩ := bindS hsK152
          have f91 := ckI e89
          obtain ⟨a92, e93, hsK152⟩ := bindS hsK152
          have f94 := gcI e93
          obtain ⟨r96, e95, hsK152⟩ := bindS hsK152
          refine AOps.cc hT hA {} (by (repeat (cbv; simp only [c87, f90, f91, f94])); first | done | cbv) (lb rfl) (R76w hA e95) rfl (.inr rfl) rfl rfl rfl (lb rfl) rfl rfl ?_
          refine AOps.cd hT hA {} (by (repeat (cbv; simp only [c87, f90, f91, f94])); first | done | cbv) (lb rfl) ?_
          refine nT ?_
          refine AWp.block ?_
          obtain ⟨xK150, hxK150, K150, hK150, hkK150⟩ := bindK hsK152
          refine AWp.cutX 2 [6, 8, 10, 30] [] 3 (lb rfl) (fun τ => ∃ v149, K150 v149 = some eK152 ∧ τ = { env := [(6, (.ptr 0 0)), (8, (.ptr 1 0)), (10, (.ptr 2 0)), (30, (.d (.int .i64 v85)))], heap := [(.arr 1 (A.spl (A.rep (Int.ofNat 6) (.int .u8 0)) (A.zadd 0 (Int.ofNat 0)) r4)), (.arr 1 (A.spl (A.rep (Int.ofNat 6) (.int .u8 0)) (A.zadd 0 (Int.ofNat 0)) r11)), (.arr 1 v149)], n := 54 }) ?_ ?_
          · skip
            refine AWp.iter hxK150 [6, 8, 10, 11, 30, 36, 37, 38] [] 3 (lb rfl) (fun (v122, v123) => { env := [(6, (.ptr 0 0)), (8, (.ptr 1 0)), (10, (.ptr 2 0)), (11, (.d (.int .i64 v85))), (30, (.d (.int .i64 v85))), (36, (.own 1 r96)), (37, (.d (.int .i64 (A.len r96)))), (38, (.d (.int .i64 v122)))], heap := [(.arr 1 (A.spl (A.rep (Int.ofNat 6) (.int .u8 0)) (A.zadd 0 (Int.ofNat 0)) r4)), (.arr 1 (A.spl (A.rep (Int.ofNat 6) (.int .u8 0)) (A.zadd 0 (Int.ofNat 0)) r11)), (.arr 1 v123)], n := 54 }) ⟨rfl, (by first | (cbv; done) | ((repeat (cbv; simp only [c87])); first | done | cbv))⟩ ?_
            rintro ⟨v122, v123⟩ eK150 hsK150
            dsimp only [R39L0] at hsK150
            refine AWp.seq ?_
            refine AWp.rg hT hA {} (by cbv) (lb rfl) ?_
            refine nT ?_
            refine AWp.seq ?_
            rcases tf (A.zlt v122 (A.len r96)) with c124 | c124
            · replace hsK150 := cT c124 hsK150
              refine AWp.cdT rfl (by first | rfl | simp only [c124, Bool.not_true, Bool.not_false, cond_true, cond_false]) ?_
              refine AWp.skip ?_
              refine nT ?_
              refine AWp.seq ?_
              refine AWp.block ?_
              refine AWp.seq ?_
              obtain ⟨a125, e126, hsK150⟩ := bindS hsK150
              obtain ⟨f127, f128⟩ := gtI e126
              refine AWp.rg hT hA {} (by (repeat (cbv; simp only [c124, f127, f128])); first | done | cbv) (lb rfl) ?_
              refine nT ?_
              obtain ⟨_, e129, hsK150⟩ := bindS hsK150
              have f131 := ckI e129
              obtain ⟨_, e130, hsK150⟩ := bindS hsK150
              have f132 := ckI e130
              obtain ⟨a133, e134, hsK150⟩ := bindS hsK150
              have f135 := gcI e134
              obtain ⟨_, e136, hsK150⟩ := bindS hsK150
              have f138 := ckI e136
              obtain ⟨_, e137, hsK150⟩ := bindS hsK150
              have f139 := ckI e137
              obtain ⟨a140, e141, hsK150⟩ := bindS hsK150
              have f142 := gcI e141
              obtain ⟨_, e143, hsK150⟩ := bindS hsK150
              have f145 := ckI e143
              obtain ⟨_, e144, hsK150⟩ := bindS hsK150
              have f146 := ckI e144
              obtain ⟨d147, e148, hsK150⟩ := bindS hsK150
              refine AWp.rd hT hA { tk := [48] } rfl (by (repeat (cbv; simp only [c124, f131, f132, f135, f138, f139, f142, f145, f146, e148])); first | done | cbv) (by kernel_rfl) (lb rfl) ?_
              refine nB ?_
              refine nT ?_
              refine AWp.rg hT hA {} (by (repeat (cbv; simp only [c124])); first | done | cbv) (lb rfl) ?_
              exact nT ⟨_, (soI hsK150).symm, rfl, (by first | (cbv; done) | ((repeat (cbv; simp only [c124])); first | done | cbv))⟩
            · replace hsK150 := cF c124 hsK150
              refine AWp.cdF rfl (by first | rfl | simp only [c124, Bool.not_true, Bool.not_false, cond_true, cond_false]) ?_
              refine AWp.exit ?_
              refine xT ?_
              refine xT ?_
              refine exL hsK150 fun hx => ?_
              subst hx
              exact oxI ⟨rfl, _, hkK150, (by first | (cbv; done) | ((repeat (cbv; simp only [c124])); first | done | cbv))⟩
          · rintro _ ⟨v149, hkK150, rfl⟩
            have hsK152 := (hK150 _ hkK150)
            refine xB ?_
            refine nB ?_
            refine nT ?_
            refine AWp.rg hT hA {} (by cbv) (lb rfl) ?_
            exact nT ⟨_, (soI hsK152).symm, rfl, (by cbv)⟩
        · replace hsK152 := cF c87 hsK152
          refine AWp.cdF rfl (by first | rfl | simp only [c87, Bool.not_true, Bool.not_false, cond_true, cond_false]) ?_
          refine AWp.exit ?_
          refine xT ?_
          refine xT ?_
          refine exL hsK152 fun hx => ?_
          subst hx
          exact oxI ⟨rfl, _, hkK152, (by first | (cbv; done) | ((repeat (cbv; simp only [c87])); first | done | cbv))⟩
      · rintro _ ⟨v151, hkK152, rfl⟩
        have h := (hK152 _ hkK152)
        refine xB ?_
        refine nT ?_
        refine AWp.seq ?_
        refine AWp.region ?_
        obtain ⟨l157, e153, h⟩ := bindS h
        obtain ⟨f154, f155, f156⟩ := gaI e153
        obtain ⟨r159, e158, h⟩ := bindS h
        refine AOps.cc hT hA {} (by (repeat (cbv; simp only [f154, f155, f156, f154, f155, f156])); first | done | cbv) (lb rfl) (R86w hA e158) rfl (.inr rfl) rfl rfl rfl (lb rfl) rfl rfl ?_
        refine AOps.cd hT hA {} (by (repeat (cbv; simp only [f154, f155, f156, f154, f155, f156])); first | done | cbv) (lb rfl) ?_
        refine nT ?_
        refine AWp.ret ?_
        cases soI h
        exact ⟨rfl, rfl, rfl, lb rfl, _, rfl⟩

theorem R87w {A : Ar} (hA : A = Ar.std) {x1 : List D} {x2 : Int} {x3 : Int} {v42 : Bool} (h : R87 A x1 x2 x3 = some v42) : ACall Try.prog 87 [(.d (.list 2 x1)), (.d (.int .i64 x2)), (.d (.int .i64 x3))] [] (.d (.bool v42)) [] := by
  unfold R87 at h
  refine ACall.enter hT (fn := Try.f87) Try.func87 rfl (by decide) (by simp [Try.f87]) rfl rfl rfl rfl (lb rfl) ?_
  refine AWp.seq ?_
  refine AWp.rg hT hA {} (by cbv) (lb rfl) ?_
  refine nT ?_
  refine AWp.seq ?_
  refine AWp.seq ?_
  refine AWp.rg hT hA {} (by cbv) (lb rfl) ?_
  refine nT ?_
  refine AWp.block ?_
  obtain ⟨xK41, hxK41, K41, hK41, hkK41⟩ := bindK h
  refine AWp.cutX 0 [] [] 0 (lb rfl) (fun τ => K41 (.inl ()) = some v42 ∧ τ = { env := [], heap := [], n := 72 }) ?_ ?_
  · skip
    refine AWp.iter hxK41 [0, 1, 2, 9, 10, 11] [] 0 (lb rfl) (fun v17 => { env := [(0, (.d (.list 2 x1))), (1, (.d (.int .i64 x2))), (2, (.d (.int .i64 x3))), (9, (.d (.list 2 x1))), (10, (.d (.int .i64 (A.len x1)))), (11, (.d (.int .i64 v17)))], heap := [], n := 72 }) ⟨rfl, (by cbv)⟩ ?_
    rintro v17 eK41 hsK41
    dsimp only [R87L0] at hsK41
    refine AWp.seq ?_
    refine AWp.rg hT hA {} (by cbv) (lb rfl) ?_
    refine nT ?_
    refine AWp.seq ?_
    rcases tf (A.zlt v17 (A.len x1)) with c18 | c18
    · replace hsK41 := cT c18 hsK41
      refine AWp.cdT rfl (by first | rfl | simp only [c18, Bool.not_true, Bool.not_false, cond_true, cond_false]) ?_
      refine AWp.skip ?_
      refine nT ?_
      refine AWp.seq ?_
      refine AWp.block ?_
      refine AWp.seq ?_
      obtain ⟨⟨a19, a20⟩, e21, hsK41⟩ := bindS hsK41
      obtain ⟨f22, f23⟩ := gtI e21
      refine AWp.rg hT hA { tk := [15] } (by (repeat (cbv; simp only [c18, f22, f23])); first | done | cbv) (lb rfl) ?_
      refine nT ?_
      refine AWp.seq ?_
      refine AWp.seq ?_
      obtain ⟨v27, hvK28, hsK41⟩ := bindS hsK41
      refine AWp.cutN [0, 1, 2, 7, 8, 9, 10, 11, 35] [] 0 (lb rfl) (fun τ => τ = { env := [(0, (.d (.list 2 x1))), (1, (.d (.int .i64 x2))), (2, (.d (.int .i64 x3))), (7, (.d (.int .i64 v17))), (8, (.lbox [(.d (.int .i64 a19)), (.d (.int .i64 a20))])), (9, (.d (.list 2 x1))), (10, (.d (.int .i64 (A.len x1)))), (11, (.d (.int .i64 v17))), (35, (.d (.bool v27)))], heap := [], n := 72 }) ?_ ?_
      · skip
        rcases tf (A.zlt a19 0) with c24 | c24
        · replace hvK28 := cT c24 hvK28
          refine AWp.rg hT hA {} (by (repeat (cbv; simp only [c18, c24])); first | done | cbv) (lb rfl) ?_
          cases soI hvK28
          exact oNi ⟨rfl, (by first | (cbv; done) | ((repeat (cbv; simp only [c18, c24])); first | done | cbv))⟩
        · replace hvK28 := cF c24 hvK28
          rcases tf (A.zle x2 a19) with c25 | c25
          · replace hvK28 := cT c25 hvK28
            refine AWp.rg hT hA {} (by (repeat (cbv; simp only [c18, c24, c25])); first | done | cbv) (lb rfl) ?_
            cases soI hvK28
            exact oNi ⟨rfl, (by first | (cbv; done) | ((repeat (cbv; simp only [c18, c24, c25])); first | done | cbv))⟩
          · replace hvK28 := cF c25 hvK28
            rcases tf (A.zlt a20 0) with c26 | c26
            · replace hvK28 := cT c26 hvK28
              refine AWp.rg hT hA {} (by (repeat (cbv; simp only [c18, c24, c25, c26])); first | done | cbv) (lb rfl) ?_
              cases soI hvK28
              exact oNi ⟨rfl, (by first | (cbv; done) | ((repeat (cbv; simp only [c18, c24, c25, c26])); first | done | cbv))⟩
            · replace hvK28 := cF c26 hvK28
              refine AWp.rg hT hA {} (by (repeat (cbv; simp only [c18, c24, c25, c26])); first | done | cbv) (lb rfl) ?_
              cases soI hvK28
              exact oNi ⟨rfl, (by first | (cbv; done) | ((repeat (cbv; simp only [c18, c24, c25, c26])); first | done | cbv))⟩
      · rintro _ rfl
        refine nT ?_
        rcases tf v27 with c29 | c29
        · replace hsK41 := cT c29 hsK41
          refine AWp.cdT rfl (by first | rfl | simp only [c29, Bool.not_true, Bool.not_false, cond_true, cond_false]) ?_
          refine AWp.seq ?_
          refine AWp.rg hT hA {} (by (repeat (cbv; simp only [c29])); first | done | cbv) (lb rfl) ?_
          refine nT ?_
          refine AWp.ret ?_
          refine rT ?_
          refine rB ?_
          refine rT ?_
          refine rT ?_
          refine exL hsK41 fun hx => ?_
          subst hx
          refine oxR ?_
          replace hkK41 := (eR (hK41 _ hkK41))
          refine rB ?_
          refine rT ?_
          cases soI hkK41
          exact ⟨rfl, rfl, rfl, lb rfl, _, rfl⟩
        · replace hsK41 := cF c29 hsK41
          refine AWp.cdF rfl (by first | rfl | simp only [c29, Bool.not_true, Bool.not_false, cond_true, cond_false]) ?_
          refine AWp.skip ?_
          refine nT ?_
          refine AWp.seq ?_
          obtain ⟨v38, hvK39, hsK41⟩ := bindS hsK41
          refine AWp.cutN [0, 1, 2, 9, 10, 11, 70] [] 0 (lb rfl) (fun τ => τ = { env := [(0, (.d (.list 2 x1))), (1, (.d (.int .i64 x2))), (2, (.d (.int .i64 x3))), (9, (.d (.list 2 x1))), (10, (.d (.int .i64 (A.len x1)))), (11, (.d (.int .i64 v17))), (70, (.d (.bool v38)))], heap := [], n := 72 }) ?_ ?_
          · skip
            rcases tf (A.zlt 0 v17) with c30 | c30
            · replace hvK39 := cT c30 hvK39
              obtain ⟨⟨a31, a32⟩, e33, hvK39⟩ := bindS hvK39
              obtain ⟨f34, f35⟩ := gtI e33
              rcases tf (A.zlt a19 a31) with c36 | c36
              · replace hvK39 := cT c36 hvK39
                refine AWp.rd hT hA {} rfl (by (repeat (cbv; simp only [c29, c30, c36, f34, f35])); first | done | cbv) (by kernel_rfl) (lb rfl) ?_
                cases soI hvK39
                exact oNi ⟨rfl, (by first | (cbv; done) | ((repeat (cbv; simp only [c29, c30, c36])); first | done | cbv))⟩
              · replace hvK39 := cF c36 hvK39
                rcases tf (A.zeq a19 a31) with c37 | c37
                · replace hvK39 := cT c37 hvK39
                  refine AWp.rd hT hA {} rfl (by (repeat (cbv; simp only [c29, c30, c36, c37, f34, f35])); first | done | cbv) (by kernel_rfl) (lb rfl) ?_
                  cases soI hvK39
                  exact oNi ⟨rfl, (by first | (cbv; done) | ((repeat (cbv; simp only [c29, c30, c36, c37])); first | done | cbv))⟩
                · replace hvK39 := cF c37 hvK39
                  refine AWp.rd hT hA {} rfl (by (repeat (cbv; simp only [c29, c30, c36, c37, f34, f35])); first | done | cbv) (by kernel_rfl) (lb rfl) ?_
                  cases soI hvK39
                  exact oNi ⟨rfl, (by first | (cbv; done) | ((repeat (cbv; simp only [c29, c30, c36, c37])); first | done | cbv))⟩
            · replace hvK39 := cF c30 hvK39
              refine AWp.rd hT hA {} rfl (by (repeat (cbv; simp only [c29, c30])); first | done | cbv) (by kernel_rfl) (lb rfl) ?_
              cases soI hvK39
              exact oNi ⟨rfl, (by first | (cbv; done) | ((repeat (cbv; simp only [c29, c30])); first | done | cbv))⟩
          · rintro _ rfl
            refine nT ?_
            rcases tf v38 with c40 | c40
            · replace hsK41 := cT c40 hsK41
              refine AWp.cdT rfl (by first | rfl | simp only [c40, Bool.not_true, Bool.not_false, cond_true, cond_false]) ?_
              refine AWp.seq ?_
              refine AWp.rg hT hA {} (by (repeat (cbv; simp only [c40])); first | done | cbv) (lb rfl) ?_
              refine nT ?_
              refine AWp.ret ?_
              refine rB ?_
              refine rT ?_
              refine rT ?_
              refine exL hsK41 fun hx => ?_
              subst hx
              refine oxR ?_
              replace hkK41 := (eR (hK41 _ hkK41))
              refine rB ?_
              refine rT ?_
              cases soI hkK41
              exact ⟨rfl, rfl, rfl, lb rfl, _, rfl⟩
            · replace hsK41 := cF c40 hsK41
              refine AWp.cdF rfl (by first | rfl | simp only [c40, Bool.not_true, Bool.not_false, cond_true, cond_false]) ?_
              refine AWp.skip ?_
              refine nB ?_
              refine nT ?_
              refine AWp.rg hT hA {} (by (repeat (cbv; simp only [c40])); first | done | cbv) (lb rfl) ?_
              exact nT ⟨_, (soI hsK41).symm, rfl, (by first | (cbv; done) | ((repeat (cbv; simp only [c40])); first | done | cbv))⟩
    · replace hsK41 := cF c18 hsK41
      refine AWp.cdF rfl (by first | rfl | simp only [c18, Bool.not_true, Bool.not_false, cond_true, cond_false]) ?_
      refine AWp.exit ?_
      refine xT ?_
      refine xT ?_
      refine exL hsK41 fun hx => ?_
      subst hx
      exact oxI ⟨rfl, hkK41, (by first | (cbv; done) | ((repeat (cbv; simp only [c18])); first | done | cbv))⟩
  · rintro _ ⟨hkK41, rfl⟩
    have h := (eL (hK41 _ hkK41))
    refine xB ?_
    refine nT ?_
    refine AWp.seq ?_
    refine AWp.rg hT hA {} (by cbv) (lb rfl) ?_
    refine nT ?_
    refine AWp.ret ?_
    cases soI h
    exact ⟨rfl, rfl, rfl, lb rfl, _, rfl⟩

theorem R42w {A : Ar} (hA : A = Ar.std) {x1 : List D} {v32 : Bool} (h : R42 A x1 = some v32) : ACall Try.prog 42 [(.d (.list 2 x1))] [] (.d (.bool v32)) [] := by
  unfold R42 at h
  refine ACall.enter hT (fn := Try.f42) Try.func42 rfl (by decide) (by simp [Try.f42]) rfl rfl rfl rfl (lb rfl) ?_
  refine AWp.seq ?_
  refine AWp.rg hT hA {} (by cbv) (lb rfl) ?_
  refine nT ?_
  refine AWp.seq ?_
  refine AWp.seq ?_
  refine AWp.rg hT hA {} (by cbv) (lb rfl) ?_
  refine nT ?_
  refine AWp.block ?_
  obtain ⟨xK31, hxK31, K31, hK31, hkK31⟩ := bindK h
  refine AWp.cutX 0 [] [] 0 (lb rfl) (fun τ => K31 (.inl ()) = some v32 ∧ τ = { env := [], heap := [], n := 19 }) ?_ ?_
  · skip
    refine AWp.iter hxK31 [5, 6, 7] [] 0 (lb rfl) (fun v16 => { env := [(5, (.d (.list 2 x1))), (6, (.d (.int .i64 (A.len x1)))), (7, (.d (.int .i64 v16)))], heap := [], n := 19 }) ⟨rfl, (by cbv)⟩ ?_
    rintro v16 eK31 hsK31
    dsimp only [R42L0] at hsK31
    refine AWp.seq ?_
    refine AWp.rg hT hA {} (by cbv) (lb rfl) ?_
    refine nT ?_
    refine AWp.seq ?_
    rcases tf (A.zlt v16 (A.len x1)) with c17 | c17
    · replace hsK31 := cT c17 hsK31
      refine AWp.cdT rfl (by first | rfl | simp only [c17, Bool.not_true, Bool.not_false, cond_true, cond_false]) ?_
      refine AWp.skip ?_
      refine nT ?_
      refine AWp.seq ?_
      refine AWp.block ?_
      refine AWp.seq ?_
      obtain ⟨⟨a18, a19⟩, e20, hsK31⟩ := bindS hsK31
      obtain ⟨f21, f22⟩ := gtI e20
      refine AWp.rg hT hA { tk := [10] } (by (repeat (cbv; simp only [c17, f21, f22])); first | done | cbv) (lb rfl) ?_
      refine nT ?_
      refine AWp.seq ?_
      obtain ⟨v28, hvK29, hsK31⟩ := bindS hsK31
      refine AWp.cutN [5, 6, 7, 17] [] 0 (lb rfl) (fun τ => τ = { env := [(5, (.d (.list 2 x1))), (6, (.d (.int .i64 (A.len x1)))), (7, (.d (.int .i64 v16))), (17, (.d (.bool v28)))], heap := [], n := 19 }) ?_ ?_
      · skip
        refine AWp.region ?_
        obtain ⟨r24, e23, hvK29⟩ := bindS hvK29
        refine AOps.cc hT hA {} (by (repeat (cbv; simp only [c17])); first | done | cbv) (lb rfl) (R16w hA e23) rfl (.inl rfl) rfl rfl rfl (lb rfl) rfl rfl ?_
        rcases tf r24 with c25 | c25
        · replace hvK29 := cT c25 hvK29
          refine AOps.cd hT hA {} (by (repeat (cbv; simp only [c17, c25])); first | done | cbv) (lb rfl) ?_
          cases soI hvK29
          exact oNi ⟨rfl, (by first | (cbv; done) | ((repeat (cbv; simp only [c17, c25])); first | done | cbv))⟩
        · replace hvK29 := cF c25 hvK29
          obtain ⟨r27, e26, hvK29⟩ := bindS hvK29
          refine AOps.cc hT hA {} (by (repeat (cbv; simp only [c17, c25])); first | done | cbv) (lb rfl) (R34w hA e26) rfl (.inl rfl) rfl rfl rfl (lb rfl) rfl rfl ?_
          refine AOps.cd hT hA {} (by (repeat (cbv; simp only [c17, c25])); first | done | cbv) (lb rfl) ?_
          cases soI hvK29
          exact oNi ⟨rfl, (by first | (cbv; done) | ((repeat (cbv; simp only [c17, c25])); first | done | cbv))⟩
      · rintro _ rfl
        refine nT ?_
        rcases tf v28 with c30 | c30
        · replace hsK31 := cT c30 hsK31
          refine AWp.cdT rfl (by first | rfl | simp only [c30, Bool.not_true, Bool.not_false, cond_true, cond_false]) ?_
          refine AWp.seq ?_
          refine AWp.rg hT hA {} (by (repeat (cbv; simp only [c30])); first | done | cbv) (lb rfl) ?_
          refine nT ?_
          refine AWp.ret ?_
          refine rB ?_
          refine rT ?_
          refine rT ?_
          refine exL hsK31 fun hx => ?_
          subst hx
          refine oxR ?_
          replace hkK31 := (eR (hK31 _ hkK31))
          refine rB ?_
          refine rT ?_
          cases soI hkK31
          exact ⟨rfl, rfl, rfl, lb rfl, _, rfl⟩
        · replace hsK31 := cF c30 hsK31
          refine AWp.cdF rfl (by first | rfl | simp only [c30, Bool.not_true, Bool.not_false, cond_true, cond_false]) ?_
          refine AWp.skip ?_
          refine nB ?_
          refine nT ?_
          refine AWp.rg hT hA {} (by (repeat (cbv; simp only [c30])); first | done | cbv) (lb rfl) ?_
          exact nT ⟨_, (soI hsK31).symm, rfl, (by first | (cbv; done) | ((repeat (cbv; simp only [c30])); first | done | cbv))⟩
    · replace hsK31 := cF c17 hsK31
      refine AWp.cdF rfl (by first | rfl | simp only [c17, Bool.not_true, Bool.not_false, cond_true, cond_false]) ?_
      refine AWp.exit ?_
      refine xT ?_
      refine xT ?_
      refine exL hsK31 fun hx => ?_
      subst hx
      exact oxI ⟨rfl, hkK31, (by first | (cbv; done) | ((repeat (cbv; simp only [c17])); first | done | cbv))⟩
  · rintro _ ⟨hkK31, rfl⟩
    have h := (eL (hK31 _ hkK31))
    refine xB ?_
    refine nT ?_
    refine AWp.seq ?_
    refine AWp.rg hT hA {} (by cbv) (lb rfl) ?_
    refine nT ?_
    refine AWp.ret ?_
    cases soI h
    exact ⟨rfl, rfl, rfl, lb rfl, _, rfl⟩

theorem R109w {A : Ar} (hA : A = Ar.std) {x1 : List D} {x2 : Int} {x3 : Int} {x4 : Int} {v24 : Int} (h : R109 A x1 x2 x3 x4 = some v24) : ACall Try.prog 109 [(.d (.list 3 x1)), (.d (.agg [(.int .i64 x2), (.int .i64 x3), (.int .i64 x4)]))] [] (.d (.int .i64 v24)) [] := by
  unfold R109 at h
  refine ACall.enter hT (fn := Try.f109) Try.func109 rfl (by decide) (by simp [Try.f109]) rfl rfl rfl rfl (lb rfl) ?_
  refine AWp.seq ?_
  refine AWp.rg hT hA {} (by cbv) (lb rfl) ?_
  refine nT ?_
  refine AWp.seq ?_
  refine AWp.seq ?_
  refine AWp.rg hT hA {} (by cbv) (lb rfl) ?_
  refine nT ?_
  refine AWp.block ?_
  obtain ⟨xK23, hxK23, K23, hK23, hkK23⟩ := bindK h
  refine AWp.cutX 0 [] [] 0 (lb rfl) (fun τ => K23 (.inl ()) = some v24 ∧ τ = { env := [], heap := [], n := 19 }) ?_ ?_
  · skip
    refine AWp.iter hxK23 [0, 3, 7, 8] [] 0 (lb rfl) (fun v13 => { env := [(0, (.d (.list 3 x1))), (3, (.lbox [(.d (.int .i64 x2)), (.d (.int .i64 x3)), (.d (.int .i64 x4))])), (7, (.d (.int .i64 (A.len x1)))), (8, (.d (.int .i64 v13)))], heap := [], n := 19 }) ⟨rfl, (by cbv)⟩ ?_
    rintro v13 eK23 hsK23
    dsimp only [R109L0] at hsK23
    refine AWp.seq ?_
    refine AWp.rg hT hA {} (by cbv) (lb rfl) ?_
    refine nT ?_
    refine AWp.seq ?_
    rcases tf (A.zlt v13 (A.len x1)) with c14 | c14
    · replace hsK23 := cT c14 hsK23
      refine AWp.cdT rfl (by first | rfl | simp only [c14, Bool.not_true, Bool.not_false, cond_true, cond_false]) ?_
      refine AWp.skip ?_
      refine nT ?_
      refine AWp.seq ?_
      refine AWp.block ?_
      refine AWp.seq ?_
      refine AWp.rg hT hA { tk := [8, 10] } (by (repeat (cbv; simp only [c14])); first | done | cbv) (lb rfl) ?_
      refine nT ?_
      refine AWp.seq ?_
      obtain ⟨⟨a15, a16, a17⟩, e18, hsK23⟩ := bindS hsK23
      obtain ⟨f19, f20⟩ := gtI e18
      refine AWp.rd hT hA {} rfl (by (repeat (cbv; simp only [c14, f19, f20])); first | done | cbv) (by kernel_rfl) (lb rfl) ?_
      refine nT ?_
      rcases tf (A.deq [(.int .i64 x2), (.int .i64 x3), (.int .i64 x4)] [(.int .i64 a15), (.int .i64 a16), (.int .i64 a17)]) with c21 | c21
      · replace hsK23 := cT c21 hsK23
        refine AWp.cdT rfl (by first | rfl | simp only [c14, c21, Bool.not_true, Bool.not_false, cond_true, cond_false]) ?_
        refine AWp.seq ?_
        refine AWp.rg hT hA { tk := [5, 17] } (by (repeat (cbv; simp only [c14, c21])); first | done | cbv) (lb rfl) ?_
        refine nT ?_
        refine AWp.ret ?_
        refine rB ?_
        refine rT ?_
        refine rT ?_
        refine exL hsK23 fun hx => ?_
        subst hx
        refine oxR ?_
        replace hkK23 := (eR (hK23 _ hkK23))
        refine rB ?_
        refine rT ?_
        cases soI hkK23
        exact ⟨rfl, rfl, rfl, lb rfl, _, rfl⟩
      · replace hsK23 := cF c21 hsK23
        refine AWp.cdF rfl (by first | rfl | simp only [c14, c21, Bool.not_true, Bool.not_false, cond_true, cond_false]) ?_
        refine AWp.skip ?_
        refine nB ?_
        refine nT ?_
        refine AWp.rg hT hA { tk := [18] } (by (repeat (cbv; simp only [c14, c21])); first | done | cbv) (lb rfl) ?_
        exact nT ⟨_, (soI hsK23).symm, rfl, (by first | (cbv; done) | ((repeat (cbv; simp only [c14, c21])); first | done | cbv))⟩
    · replace hsK23 := cF c14 hsK23
      refine AWp.cdF rfl (by first | rfl | simp only [c14, Bool.not_true, Bool.not_false, cond_true, cond_false]) ?_
      refine AWp.exit ?_
      refine xT ?_
      refine xT ?_
      refine exL hsK23 fun hx => ?_
      subst hx
      exact oxI ⟨rfl, hkK23, (by first | (cbv; done) | ((repeat (cbv; simp only [c14])); first | done | cbv))⟩
  · rintro _ ⟨hkK23, rfl⟩
    have h := (eL (hK23 _ hkK23))
    refine xB ?_
    refine nT ?_
    refine AWp.seq ?_
    refine AWp.rg hT hA {} (by cbv) (lb rfl) ?_
    refine nT ?_
    refine AWp.ret ?_
    cases soI h
    exact ⟨rfl, rfl, rfl, lb rfl, _, rfl⟩
end Go.Am
