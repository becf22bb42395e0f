/- Own text: Genw0. -/
import Derived.Test.YtcnplegmmmobcaaGenp0
import Derived.Test.YtcnplegmmmobcaaAmSrt
import Derived.Test.YtcnplegmmmobcaaAmRoll
import Derived.Test.YtcnplegmmmobcaaAmRoll
import Derived.Test.YtcnplegmmmobcaaAmSortK
import Derived.Test.YtcnplegmmmobcaaR1T
import Derived.Test.YtcnplegmmmobcaaR1B
import Derived.Test.YtcnplegmmmobcaaR1S
set_option maxRecDepth 100000
set_option maxHeartbeats 2000000
set_option linter.unusedVariables false
set_option linter.unusedSimpArgs false
namespace Go.Am
open Go Go.Proofs
theorem R16w {A : Ar} (hA : A = Ar.std) {x1 : Int} {x2 : List D} {v3 : Bool} (h : R16 A x1 x2 = some v3) : ACall Try.prog 16 [(.d (.agg [(.int .i64 x1), (.list 3 x2)]))] [] (.d (.bool v3)) [] := by
  unfold R16 at h
  refine ACall.enter hT (fn := Try.f16) Try.func16 rfl (by decide) (by simp [Try.f16]) rfl rfl rfl rfl (lb rfl) ?_
  refine AWp.seq ?_
  refine AWp.rg hT hA {} (by cbv) (lb rfl) ?_
  refine nT ?_
  refine AWp.seq ?_
  refine AWp.rg hT hA { tk := [6] } (by cbv) (lb rfl) ?_
  refine nT ?_
  refine AWp.ret ?_
  cases soI h
  exact ⟨rfl, rfl, rfl, lb rfl, _, rfl⟩

theorem R65w {A : Ar} (hA : A = Ar.std) {x1 : Int} {x2 : Int} {x3 : Int} {v7 : Bool} (h : R65 A x1 x2 x3 = some v7) : ACall Try.prog 65 [(.d (.int .i64 x1)), (.d (.int .i64 x2)), (.d (.int .i64 x3))] [] (.d (.bool v7)) [] := by
  unfold R65 at h
  refine ACall.enter hT (fn := Try.f65) Try.func65 rfl (by decide) (by simp [Try.f65]) rfl rfl rfl rfl (lb rfl) ?_
  refine AWp.seq ?_
  refine AWp.rg hT hA {} (by cbv) (lb rfl) ?_
  refine nT ?_
  refine AWp.seq ?_
  obtain ⟨v5, hvK6, h⟩ := bindS h
  refine AWp.cutN [6] [] 0 (lb rfl) (fun τ => τ = { env := [(6, (.d (.bool v5)))], heap := [], n := 15 }) ?_ ?_
  · skip
    rcases tf (A.zle x1 x2) with c4 | c4
    · replace hvK6 := cT c4 hvK6
      refine AWp.rg hT hA { tk := [14] } (by (repeat (cbv; simp only [c4])); first | done | cbv) (lb rfl) ?_
      cases soI hvK6
      exact oNi ⟨rfl, (by first | (cbv; done) | ((repeat (cbv; simp only [c4])); first | done | cbv))⟩
    · replace hvK6 := cF c4 hvK6
      refine AWp.rg hT hA { tk := [14] } (by (repeat (cbv; simp only [c4])); first | done | cbv) (lb rfl) ?_
      cases soI hvK6
      exact oNi ⟨rfl, (by first | (cbv; done) | ((repeat (cbv; simp only [c4])); first | done | cbv))⟩
  · rintro _ rfl
    refine nT ?_
    refine AWp.ret ?_
    cases soI h
    exact ⟨rfl, rfl, rfl, lb rfl, _, rfl⟩

theorem R79w {A : Ar} (hA : A = Ar.std) {x1 : Int} {x2 : Int} {x3 : List D} {v6 : Bool} (h : R79 A x1 x2 x3 = some v6) : ACall Try.prog 79 [(.d (.int .i64 x1)), (.ptr 0 0)] [(.cells [(.d (.int .i64 x2)), (.d (.list 3 x3))])] (.d (.bool v6)) [(.cells [(.d (.int .i64 x2)), (.d (.list 3 x3))])] := by
  unfold R79 at h
  refine ACall.enter hT (fn := Try.f79) Try.func79 rfl (by decide) (by simp [Try.f79]) rfl rfl rfl rfl (lb rfl) ?_
  refine AWp.seq ?_
  refine AWp.rg hT hA {} (by cbv) (lb rfl) ?_
  refine nT ?_
  refine AWp.seq ?_
  refine AWp.region ?_
  obtain ⟨r5, e4, h⟩ := bindS h
  refine AOps.cc hT hA { tk := [8] } (by cbv) (lb rfl) (R65w hA e4) rfl (.inr rfl) rfl rfl rfl (lb rfl) rfl rfl ?_
  refine AOps.cd hT hA { tk := [8] } (by cbv) (lb rfl) ?_
  refine nT ?_
  refine AWp.ret ?_
  cases soI h
  exact ⟨rfl, rfl, rfl, lb rfl, _, rfl⟩

theorem R33w {A : Ar} (hA : A = Ar.std) {x1 : Int} {x2 : List D} {v59 : Bool} (h : R33 A x1 x2 = some v59) : ACall Try.prog 33 [(.d (.agg [(.int .i64 x1), (.list 3 x2)]))] [] (.d (.bool v59)) [] := by
  unfold R33 at h
  refine ACall.enter hT (fn := Try.f33) Try.func33 rfl (by decide) (by simp [Try.f33]) rfl rfl rfl rfl (lb rfl) ?_
  refine AWp.seq ?_
  refine AWp.rg hT hA { esc := [1] } (by cbv) (lb rfl) ?_
  refine nT ?_
  refine AWp.seq ?_
  refine AWp.rg hT hA {} (by cbv) (lb rfl) ?_
  refine nT ?_
  refine AWp.seq ?_
  refine AWp.rg hT hA {} (by cbv) (lb rfl) ?_
  refine nT ?_
  refine AWp.seq ?_
  refine AWp.seq ?_
  refine AWp.rg hT hA {} (by cbv) (lb rfl) ?_
  refine nT ?_
  refine AWp.block ?_
  obtain ⟨xK53, hxK53, K53, hK53, hkK53⟩ := bindK h
  refine AWp.cutX 0 [1] [] 2 (lb rfl) (fun τ => ∃ v51, K53 (.inl v51) = some v59 ∧ τ = { env := [(1, (.ptr 0 0))], heap := [(.cells [(.d (.int .i64 x1)), (.d (.list 3 x2))]), (.map true [.int .i64, .int .i64, .int .i64] v51)], n := 51 }) ?_ ?_
  · skip
    refine AWp.iter hxK53 [1, 3, 4, 10, 11, 12] [] 2 (lb rfl) (fun (v26, v27) => { env := [(1, (.ptr 0 0)), (3, (.func 79 [] [(.ptr 0 0)])), (4, (.map 1)), (10, (.d (.list 3 x2))), (11, (.d (.int .i64 (A.len x2)))), (12, (.d (.int .i64 v26)))], heap := [(.cells [(.d (.int .i64 x1)), (.d (.list 3 x2))]), (.map true [.int .i64, .int .i64, .int .i64] v27)], n := 51 }) ⟨rfl, (by cbv)⟩ ?_
    rintro ⟨v26, v27⟩ eK53 hsK53
    dsimp only [R33L0] at hsK53
    refine AWp.seq ?_
    refine AWp.rg hT hA {} (by cbv) (lb rfl) ?_
    refine nT ?_
    refine AWp.seq ?_
    rcases tf (A.zlt v26 (A.len x2)) with c28 | c28
    · replace hsK53 := cT c28 hsK53
      refine AWp.cdT rfl (by first | rfl | simp only [c28, Bool.not_true, Bool.not_false, cond_true, cond_false]) ?_
      refine AWp.skip ?_
      refine nT ?_
      refine AWp.seq ?_
      refine AWp.block ?_
      refine AWp.seq ?_
      obtain ⟨⟨a29, a30, a31⟩, e32, hsK53⟩ := bindS hsK53
      obtain ⟨f33, f34⟩ := gtI e32
      refine AWp.rg hT hA { tk := [15] } (by (repeat (cbv; simp only [c28, f33, f34])); first | done | cbv) (lb rfl) ?_
      refine nT ?_
      refine AWp.seq ?_
      refine AWp.seq ?_
      obtain ⟨v48, hvK49, hsK53⟩ := bindS hsK53
      refine AWp.cutN [1, 3, 4, 6, 10, 11, 12, 38] [] 2 (lb rfl) (fun τ => τ = { env := [(1, (.ptr 0 0)), (3, (.func 79 [] [(.ptr 0 0)])), (4, (.map 1)), (6, (.lbox [(.d (.int .i64 a29)), (.d (.int .i64 a30)), (.d (.int .i64 a31))])), (10, (.d (.list 3 x2))), (11, (.d (.int .i64 (A.len x2)))), (12, (.d (.int .i64 v26))), (38, (.d (.bool v48)))], heap := [(.cells [(.d (.int .i64 x1)), (.d (.list 3 x2))]), (.map true [.int .i64, .int .i64, .int .i64] v27)], n := 51 }) ?_ ?_
      · skip
        refine AWp.region ?_
        obtain ⟨r36, e35, hvK49⟩ := bindS hvK49
        refine AOps.cc hT hA {} (by (repeat (cbv; simp only [c28])); first | done | cbv) (lb rfl) (R79w hA e35) rfl (.inr rfl) rfl rfl rfl (lb rfl) rfl rfl ?_
        rcases tf r36 with c37 | c37
        · replace hvK49 := cT c37 hvK49
          obtain ⟨r39, e38, hvK49⟩ := bindS hvK49
          refine AOps.cc hT hA {} (by (repeat (cbv; simp only [c28, c37])); first | done | cbv) (lb rfl) (R79w hA e38) rfl (.inr rfl) rfl rfl rfl (lb rfl) rfl rfl ?_
          rcases tf r39 with c40 | c40
          · replace hvK49 := cT c40 hvK49
            obtain ⟨r42, e41, hvK49⟩ := bindS hvK49
            refine AOps.cc hT hA {} (by (repeat (cbv; simp only [c28, c37, c40])); first | done | cbv) (lb rfl) (R65w hA e41) rfl (.inr rfl) rfl rfl rfl (lb rfl) rfl rfl ?_
            rcases tf r42 with c43 | c43
            · replace hvK49 := cT c43 hvK49
              obtain ⟨o47, e45, hvK49⟩ := bindS hvK49
              rcases o47 with _ | a44
              · have f46 := lkN e45
                refine AOps.cd hT hA {} (by (repeat (cbv; simp only [c28, c37, c40, c43, f46])); first | done | cbv) (lb rfl) ?_
                cases soI hvK49
                exact oNi ⟨rfl, (by first | (cbv; done) | ((repeat (cbv; simp only [c28, c37, c40, c43])); first | done | cbv))⟩
              · have f46 := lkS e45
                refine AOps.cd hT hA {} (by (repeat (cbv; simp only [c28, c37, c40, c43, f46])); first | done | cbv) (lb rfl) ?_
                cases soI hvK49
                exact oNi ⟨rfl, (by first | (cbv; done) | ((repeat (cbv; simp only [c28, c37, c40, c43])); first | done | cbv))⟩
            · replace hvK49 := cF c43 hvK49
              refine AOps.cd hT hA {} (by (repeat (cbv; simp only [c28, c37, c40, c43])); first | done | cbv) (lb rfl) ?_
              cases soI hvK49
              exact oNi ⟨rfl, (by first | (cbv; done) | ((repeat (cbv; simp only [c28, c37, c40, c43])); first | done | cbv))⟩
          · replace hvK49 := cF c40 hvK49
            refine AOps.cd hT hA {} (by (repeat (cbv; simp only [c28, c37, c40])); first | done | cbv) (lb rfl) ?_
            cases soI hvK49
            exact oNi ⟨rfl, (by first | (cbv; done) | ((repeat (cbv; simp only [c28, c37, c40])); first | done | cbv))⟩
        · replace hvK49 := cF c37 hvK49
          refine AOps.cd hT hA {} (by (repeat (cbv; simp only [c28, c37])); first | done | cbv) (lb rfl) ?_
          cases soI hvK49
          exact oNi ⟨rfl, (by first | (cbv; done) | ((repeat (cbv; simp only [c28, c37])); first | done | cbv))⟩
      · rintro _ rfl
        refine nT ?_
        rcases tf v48 with c50 | c50
        · replace hsK53 := cT c50 hsK53
          refine AWp.cdT rfl (by first | rfl | simp only [c50, Bool.not_true, Bool.not_false, cond_true, cond_false]) ?_
          refine AWp.seq ?_
          refine AWp.rg hT hA {} (by (repeat (cbv; simp only [c50])); first | done | cbv) (lb rfl) ?_
          refine nT ?_
          refine AWp.ret ?_
          refine rT ?_
          refine rB ?_
          refine rT ?_
          refine rT ?_
          refine exL hsK53 fun hx => ?_
          subst hx
          refine oxR ?_
          replace hkK53 := (eR (hK53 _ hkK53))
          refine rB ?_
          refine rT ?_
          cases soI hkK53
          exact ⟨rfl, rfl, rfl, lb rfl, _, rfl⟩
        · replace hsK53 := cF c50 hsK53
          refine AWp.cdF rfl (by first | rfl | simp only [c50, Bool.not_true, Bool.not_false, cond_true, cond_false]) ?_
          refine AWp.skip ?_
          refine nT ?_
          refine AWp.rg hT hA {} (by (repeat (cbv; simp only [c50])); first | done | cbv) (lb rfl) ?_
          refine nB ?_
          refine nT ?_
          refine AWp.rg hT hA {} (by (repeat (cbv; simp only [c50])); first | done | cbv) (lb rfl) ?_
          exact nT ⟨_, (soI hsK53).symm, rfl, (by first | (cbv; done) | ((repeat (cbv; simp only [c50])); first | done | cbv))⟩
    · replace hsK53 := cF c28 hsK53
      refine AWp.cdF rfl (by first | rfl | simp only [c28, Bool.not_true, Bool.not_false, cond_true, cond_false]) ?_
      refine AWp.exit ?_
      refine xT ?_
      refine xT ?_
      refine exL hsK53 fun hx => ?_
      subst hx
      exact oxI ⟨rfl, _, hkK53, (by first | (cbv; done) | ((repeat (cbv; simp only [c28])); first | done | cbv))⟩
  · rintro _ ⟨v51, hkK53, rfl⟩
    have h := (eL (hK53 _ hkK53))
    refine xB ?_
    refine nT ?_
    refine AWp.seq ?_
    obtain ⟨v57, hvK58, h⟩ := bindS h
    refine AWp.cutN [2] [] 2 (lb rfl) (fun τ => τ = { env := [(2, (.d (.bool v57)))], heap := [(.cells [(.d (.int .i64 x1)), (.d (.list 3 x2))]), (.map true [.int .i64, .int .i64, .int .i64] v51)], n := 51 }) ?_ ?_
    · skip
      refine AWp.region ?_
      obtain ⟨r55, e54, hvK58⟩ := bindS hvK58
      refine AOps.cc hT hA { tk := [50] } (by cbv) (lb rfl) (R65w hA e54) rfl (.inr rfl) rfl rfl rfl (lb rfl) rfl rfl ?_
      rcases tf r55 with c56 | c56
      · replace hvK58 := cT c56 hvK58
        refine AOps.cd hT hA { tk := [50] } (by (repeat (cbv; simp only [c56])); first | done | cbv) (lb rfl) ?_
        cases soI hvK58
        exact oNi ⟨rfl, (by first | (cbv; done) | ((repeat (cbv; simp only [c56])); first | done | cbv))⟩
      · replace hvK58 := cF c56 hvK58
        refine AOps.cd hT hA { tk := [50] } (by (repeat (cbv; simp only [c56])); first | done | cbv) (lb rfl) ?_
        cases soI hvK58
        exact oNi ⟨rfl, (by first | (cbv; done) | ((repeat (cbv; simp only [c56])); first | done | cbv))⟩
    · rintro _ rfl
      refine nT ?_
      refine AWp.ret ?_
      cases soI h
      exact ⟨rfl, rfl, rfl, lb rfl, _, rfl⟩

theorem R95w {A : Ar} (hA : A = Ar.std) {x r : Int} (h : tz8 A x = some r) : ACall Try.prog 95 [.d (.int .u8 x)] [] (.d (.int .i64 r)) [] := by
  obtain ⟨h0, h1, rfl⟩ := bitI hA h
  exact ACall.ofInt rfl (fun w => Try.bits_TrailingZeros8 x w h0 h1)

theorem R76w {A : Ar} (hA : A = Ar.std) {x1 : Int} {v20 : List D} (h : R76 A x1 = some v20) : ACall Try.prog 76 [(.d (.int .u8 x1))] [] (.own 1 v20) [] := by
  unfold R76 at h
  refine ACall.enter hT (fn := Try.f76) Try.func76 rfl (by decide) (by simp [Try.f76]) rfl rfl rfl rfl (lb rfl) ?_
  refine AWp.seq ?_
  refine AWp.rg hT hA {} (by cbv) (lb rfl) ?_
  refine nT ?_
  refine AWp.seq ?_
  refine AWp.rg hT hA {} (by cbv) (lb rfl) ?_
  refine nT ?_
  refine AWp.seq ?_
  refine AWp.block ?_
  obtain ⟨xK19, hxK19, K19, hK19, hkK19⟩ := bindK h
  refine AWp.cutX 0 [3] [] 0 (lb rfl) (fun τ => ∃ v18, K19 v18 = some v20 ∧ τ = { env := [(3, (.own 1 v18))], heap := [], n := 16 }) ?_ ?_
  · skip
    refine AWp.iter hxK19 [0, 3] [] 0 (lb rfl) (fun (v9, v10) => { env := [(0, (.d (.int .u8 v9))), (3, (.own 1 v10))], heap := [], n := 16 }) ⟨rfl, (by cbv)⟩ ?_
    rintro ⟨v9, v10⟩ eK19 hsK19
    dsimp only [R76L0] at hsK19
    refine AWp.seq ?_
    refine AWp.seq ?_
    refine AWp.rg hT hA {} (by cbv) (lb rfl) ?_
    refine nT ?_
    rcases tf (A.zeq v9 0) with c11 | c11
    · replace hsK19 := cT c11 hsK19
      refine AWp.cdF rfl (by first | rfl | simp only [c11, Bool.not_true, Bool.not_false, cond_true, cond_false]) ?_
      refine AWp.exit ?_
      refine xT ?_
      refine xT ?_
      refine exL hsK19 fun hx => ?_
      subst hx
      exact oxI ⟨rfl, _, hkK19, (by first | (cbv; done) | ((repeat (cbv; simp only [c11])); first | done | cbv))⟩
    · replace hsK19 := cF c11 hsK19
      refine AWp.cdT rfl (by first | rfl | simp only [c11, Bool.not_true, Bool.not_false, cond_true, cond_false]) ?_
      refine AWp.skip ?_
      refine nT ?_
      refine AWp.seq ?_
      refine AWp.block ?_
      refine AWp.region ?_
      obtain ⟨r13, e12, hsK19⟩ := bindS hsK19
      refine AOps.cc hT hA { tk := [3, 14] } (by (repeat (cbv; simp only [c11])); first | done | cbv) (lb rfl) (R95w hA e12) rfl (.inl rfl) rfl rfl rfl (lb rfl) rfl rfl ?_
      obtain ⟨l14, e15, hsK19⟩ := bindS hsK19
      obtain ⟨f16, f17⟩ := apI e15
      refine AOps.cd hT hA { tk := [3, 14] } (by (repeat (cbv; simp only [c11, f16, f17])); first | done | cbv) (lb rfl) ?_
      refine nB ?_
      refine nT ?_
      refine AWp.rg hT hA {} (by (repeat (cbv; simp only [c11])); first | done | cbv) (lb rfl) ?_
      exact nT ⟨_, (soI hsK19).symm, rfl, (by first | (cbv; done) | ((repeat (cbv; simp only [c11])); first | done | cbv))⟩
  · rintro _ ⟨v18, hkK19, rfl⟩
    have h := (hK19 _ hkK19)
    refine xB ?_
    refine nT ?_
    refine AWp.seq ?_
    refine AWp.rg hT hA { tk := [3, 15] } (by cbv) (lb rfl) ?_
    refine nT ?_
    refine AWp.ret ?_
    cases soI h
    exact ⟨rfl, rfl, rfl, lb rfl, _, rfl⟩

theorem R68w {A : Ar} (hA : A = Ar.std) {x1 : Int} {x2 : Int} {x3 : List D} {v42 : Int} (h : R68 A x1 x2 x3 = some v42) : ACall Try.prog 68 [(.ptr 0 2), (.d (.int .i64 x1)), (.d (.int .u8 x2))] [(.arr 1 x3)] (.d (.int .u8 v42)) [(.arr 1 x3)] := by
  unfold R68 at h
  refine ACall.enter hT (fn := Try.f68) Try.func68 rfl (by decide) (by simp [Try.f68]) rfl rfl rfl rfl (lb rfl) ?_
  refine AWp.seq ?_
  refine AWp.rg hT hA {} (by cbv) (lb rfl) ?_
  refine nT ?_
  refine AWp.seq ?_
  refine AWp.rg hT hA {} (by cbv) (lb rfl) ?_
  refine nT ?_
  refine AWp.seq ?_
  refine AWp.seq ?_
  refine AWp.region ?_
  obtain ⟨r5, e4, h⟩ := bindS h
  refine AOps.cc hT hA {} (by cbv) (lb rfl) (R76w hA e4) rfl (.inr rfl) rfl rfl rfl (lb rfl) rfl rfl ?_
  refine AOps.cd hT hA {} (by cbv) (lb rfl) ?_
  refine nT ?_
  refine AWp.block ?_
  obtain ⟨xK41, hxK41, K41, hK41, hkK41⟩ := bindK h
  refine AWp.cutX 0 [7] [] 1 (lb rfl) (fun τ => ∃ v40, K41 v40 = some v42 ∧ τ = { env := [(7, (.d (.int .u8 v40)))], heap := [(.arr 1 x3)], n := 28 }) ?_ ?_
  · skip
    refine AWp.iter hxK41 [0, 1, 7, 11, 12, 13] [] 1 (lb rfl) (fun (v22, v23) => { env := [(0, (.ptr 0 2)), (1, (.d (.int .i64 x1))), (7, (.d (.int .u8 v22))), (11, (.own 1 r5)), (12, (.d (.int .i64 (A.len r5)))), (13, (.d (.int .i64 v23)))], heap := [(.arr 1 x3)], n := 28 }) ⟨rfl, (by cbv)⟩ ?_
    rintro ⟨v22, v23⟩ eK41 hsK41
    dsimp only [R68L0] at hsK41
    refine AWp.seq ?_
    refine AWp.rg hT hA {} (by cbv) (lb rfl) ?_
    refine nT ?_
    refine AWp.seq ?_
    rcases tf (A.zlt v23 (A.len r5)) with c24 | c24
    · replace hsK41 := cT c24 hsK41
      refine AWp.cdT rfl (by first | rfl | simp only [c24, Bool.not_true, Bool.not_false, cond_true, cond_false]) ?_
      refine AWp.skip ?_
      refine nT ?_
      refine AWp.seq ?_
      refine AWp.block ?_
      refine AWp.seq ?_
      obtain ⟨a25, e26, hsK41⟩ := bindS hsK41
      obtain ⟨f27, f28⟩ := gtI e26
      refine AWp.rg hT hA {} (by (repeat (cbv; simp only [c24, f27, f28])); first | done | cbv) (lb rfl) ?_
      refine nT ?_
      obtain ⟨_, e29, hsK41⟩ := bindS hsK41
      have f31 := ckI e29
      obtain ⟨_, e30, hsK41⟩ := bindS hsK41
      have f32 := ckI e30
      obtain ⟨_, e33, hsK41⟩ := bindS hsK41
      have f35 := ckI e33
      obtain ⟨_, e34, hsK41⟩ := bindS hsK41
      have f36 := ckI e34
      obtain ⟨a37, e38, hsK41⟩ := bindS hsK41
      have f39 := gcI e38
      refine AWp.rg hT hA { tk := [25] } (by (repeat (cbv; simp only [c24, f31, f32, f35, f36, f39])); first | done | cbv) (lb rfl) ?_
      refine nB ?_
      refine nT ?_
      refine AWp.rg hT hA {} (by (repeat (cbv; simp only [c24])); first | done | cbv) (lb rfl) ?_
      exact nT ⟨_, (soI hsK41).symm, rfl, (by first | (cbv; done) | ((repeat (cbv; simp only [c24])); first | done | cbv))⟩
    · replace hsK41 := cF c24 hsK41
      refine AWp.cdF rfl (by first | rfl | simp only [c24, Bool.not_true, Bool.not_false, cond_true, cond_false]) ?_
      refine AWp.exit ?_
      refine xT ?_
      refine xT ?_
      refine exL hsK41 fun hx => ?_
      subst hx
      exact oxI ⟨rfl, _, hkK41, (by first | (cbv; done) | ((repeat (cbv; simp only [c24])); first | done | cbv))⟩
  · rintro _ ⟨v40, hkK41, rfl⟩
    have h := (hK41 _ hkK41)
    refine xB ?_
    refine nT ?_
    refine AWp.seq ?_
    refine AWp.rg hT hA { tk := [7, 27] } (by cbv) (lb rfl) ?_
    refine nT ?_
    refine AWp.ret ?_
    cases soI h
    exact ⟨rfl, rfl, rfl, lb rfl, _, rfl⟩

theorem R68aw {A : Ar} (hA : A = Ar.std) {x1 : Int} {x2 : Int} {x3 : List D} {v42 : Int} (h : R68a A x1 x2 x3 = some v42) : ACall Try.prog 68 [(.ptr 0 26), (.d (.int .i64 x1)), (.d (.int .u8 x2))] [(.arr 1 x3)] (.d (.int .u8 v42)) [(.arr 1 x3)] := by
  unfold R68a at h
  refine ACall.enter hT (fn := Try.f68) Try.func68 rfl (by decide) (by simp [Try.f68]) rfl rfl rfl rfl (lb rfl) ?_
  refine AWp.seq ?_
  refine AWp.rg hT hA {} (by cbv) (lb rfl) ?_
  refine nT ?_
  refine AWp.seq ?_
  refine AWp.rg hT hA {} (by cbv) (lb rfl) ?_
  refine nT ?_
  refine AWp.seq ?_
  refine AWp.seq ?_
  refine AWp.region ?_
  obtain ⟨r5, e4, h⟩ := bindS h
  refine AOps.cc hT hA {} (by cbv) (lb rfl) (R76w hA e4) rfl (.inr rfl) rfl rfl rfl (lb rfl) rfl rfl ?_
  refine AOps.cd hT hA {} (by cbv) (lb rfl) ?_
  refine nT ?_
  refine AWp.block ?_
  obtain ⟨xK41, hxK41, K41, hK41, hkK41⟩ := bindK h
  refine AWp.cutX 0 [7] [] 1 (lb rfl) (fun τ => ∃ v40, K41 v40 = some v42 ∧ τ = { env := [(7, (.d (.int .u8 v40)))], heap := [(.arr 1 x3)], n := 28 }) ?_ ?_
  · skip
    refine AWp.iter hxK41 [0, 1, 7, 11, 12, 13] [] 1 (lb rfl) (fun (v22, v23) => { env := [(0, (.ptr 0 26)), (1, (.d (.int .i64 x1))), (7, (.d (.int .u8 v22))), (11, (.own 1 r5)), (12, (.d (.int .i64 (A.len r5)))), (13, (.d (.int .i64 v23)))], heap := [(.arr 1 x3)], n := 28 }) ⟨rfl, (by cbv)⟩ ?_
    rintro ⟨v22, v23⟩ eK41 hsK41
    dsimp only [R68aL0] at hsK41
    refine AWp.seq ?_
    refine AWp.rg hT hA {} (by cbv) (lb rfl) ?_
    refine nT ?_
    refine AWp.seq ?_
    rcases tf (A.zlt v23 (A.len r5)) with c24 | c24
    · replace hsK41 := cT c24 hsK41
      refine AWp.cdT rfl (by first | rfl | simp only [c24, Bool.not_true, Bool.not_false, cond_true, cond_false]) ?_
      refine AWp.skip ?_
      refine nT ?_
      refine AWp.seq ?_
      refine AWp.block ?_
      refine AWp.seq ?_
      obtain ⟨a25, e26, hsK41⟩ := bindS hsK41
      obtain ⟨f27, f28⟩ := gtI e26
      refine AWp.rg hT hA {} (by (repeat (cbv; simp only [c24, f27, f28])); first | done | cbv) (lb rfl) ?_
      refine nT ?_
      obtain ⟨_, e29, hsK41⟩ := bindS hsK41
      have f31 := ckI e29
      obtain ⟨_, e30, hsK41⟩ := bindS hsK41
      have f32 := ckI e30
      obtain ⟨_, e33, hsK41⟩ := bindS hsK41
      have f35 := ckI e33
      obtain ⟨_, e34, hsK41⟩ := bindS hsK41
      have f36 := ckI e34
      obtain ⟨a37, e38, hsK41⟩ := bindS hsK41
      have f39 := gcI e38
      refine AWp.rg hT hA { tk := [25] } (by (repeat (cbv; simp only [c24, f31, f32, f35, f36, f39])); first | done | cbv) (lb rfl) ?_
      refine nB ?_
      refine nT ?_
      refine AWp.rg hT hA {} (by (repeat (cbv; simp only [c24])); first | done | cbv) (lb rfl) ?_
      exact nT ⟨_, (soI hsK41).symm, rfl, (by first | (cbv; done) | ((repeat (cbv; simp only [c24])); first | done | cbv))⟩
    · replace hsK41 := cF c24 hsK41
      refine AWp.cdF rfl (by first | rfl | simp only [c24, Bool.not_true, Bool.not_false, cond_true, cond_false]) ?_
      refine AWp.exit ?_
      refine xT ?_
      refine xT ?_
      refine exL hsK41 fun hx => ?_
      subst hx
      exact oxI ⟨rfl, _, hkK41, (by first | (cbv; done) | ((repeat (cbv; simp only [c24])); first | done | cbv))⟩
  · rintro _ ⟨v40, hkK41, rfl⟩
    have h := (hK41 _ hkK41)
    refine xB ?_
    refine nT ?_
    refine AWp.seq ?_
    refine AWp.rg hT hA { tk := [7, 27] } (by cbv) (lb rfl) ?_
    refine nT ?_
    refine AWp.ret ?_
    cases soI h
    exact ⟨rfl, rfl, rfl, lb rfl, _, rfl⟩

theorem R58wa {A : Ar} (hA : A = Ar.std) {x1 : Int} {x2 : List D} {v219 : List D} (h : R58 A x1 x2 = some (.inl v219)) : ACall Try.prog 58 [(.d (.agg [(.int .i64 x1), (.list 3 x2)]))] [] (.tuple [(.ptr 0 0), (.d (.int .i64 0))]) [(.arr 1 v219)] := by
  unfold R58 at h
  refine ACall.enter hT (fn := Try.f58) Try.func58 rfl (by decide) (by simp [Try.f58]) rfl rfl rfl rfl (lb rfl) ?_
  refine AWp.seq ?_
  refine AWp.rg hT hA {} (by cbv) (lb rfl) ?_
  refine nT ?_
  refine AWp.seq ?_
  refine AWp.seq ?_
  refine AWp.region ?_
  obtain ⟨r4, e3, h⟩ := bindS h
  refine AOps.cc hT hA {} (by cbv) (lb rfl) (R33w hA e3) rfl (.inl rfl) rfl rfl rfl (lb rfl) rfl rfl ?_
  refine AOps.cd hT hA {} (by cbv) (lb rfl) ?_
  refine nT ?_
  rcases tf r4 with c5 | c5
  · replace h := cT c5 h
    refine AWp.cdF rfl (by first | rfl | simp only [c5, Bool.not_true, Bool.not_false, cond_true, cond_false]) ?_
    refine AWp.skip ?_
    refine nT ?_
    refine AWp.seq ?_
    have f6 := lnF hA (l := [(.int .i64 x1), (.list 3 x2), (.int .u8 0), (.int .u8 0), (.int .u8 0), (.int .u8 0), (.int .u8 0), (.int .u8 0), (.int .u8 0), (.int .u8 0), (.int .u8 0), (.int .u8 0), (.int .u8 0), (.int .u8 0), (.int .u8 0), (.int .u8 0), (.int .u8 0), (.int .u8 0), (.int .u8 0), (.int .u8 0), (.int .u8 0), (.int .u8 0), (.int .u8 0), (.int .u8 0), (.int .u8 0), (.int .u8 0), (.int .u8 0), (.int .u8 0), (.int .u8 0), (.int .u8 0), (.int .u8 0), (.int .u8 0), (.int .u8 0), (.int .u8 0), (.int .u8 0), (.int .u8 0), (.int .u8 0), (.int .u8 0), (.int .u8 0), (.int .u8 0), (.int .u8 0), (.int .u8 0), (.int .u8 0), (.int .u8 0), (.int .u8 0), (.int .u8 0), (.int .u8 0), (.int .u8 0), (.int .u8 0), (.int .u8 0)]) (n := 50) rfl
    refine AWp.rg hT hA { arr := [17] } (by (repeat (cbv; simp only [c5, f6])); first | done | cbv) (lb rfl) ?_
    refine nT ?_
    refine AWp.seq ?_
    refine AWp.seq ?_
    refine AWp.rg hT hA {} (by (repeat (cbv; simp only [c5])); first | done | cbv) (lb rfl) ?_
    refine nT ?_
    refine AWp.block ?_
    obtain ⟨xK70, hxK70, K70, hK70, hkK70⟩ := bindK h
    refine AWp.cutX 0 [1, 4] [] 1 (lb rfl) (fun τ => ∃ v69, K70 v69 = some (.inl v219) ∧ τ = { env := [(1, (.lbox [(.d (.int .i64 x1)), (.d (.list 3 x2))])), (4, (.ptr 0 0))], heap := [(.arr 1 v69)], n := 111 }) ?_ ?_
    · skip
      refine AWp.iter hxK70 [1, 4, 19, 20, 21] [] 1 (lb rfl) (fun (v37, v38) => { env := [(1, (.lbox [(.d (.int .i64 x1)), (.d (.list 3 x2))])), (4, (.ptr 0 0)), (19, (.d (.list 3 x2))), (20, (.d (.int .i64 (A.len x2)))), (21, (.d (.int .i64 v37)))], heap := [(.arr 1 v38)], n := 111 }) ⟨rfl, (by first | (cbv; done) | ((repeat (cbv; simp only [c5])); first | done | cbv))⟩ ?_
      rintro ⟨v37, v38⟩ eK70 hsK70
      dsimp only [R58L0] at hsK70
      refine AWp.seq ?_
      refine AWp.rg hT hA {} (by cbv) (lb rfl) ?_
      refine nT ?_
      refine AWp.seq ?_
      rcases tf (A.zlt v37 (A.len x2)) with c39 | c39
      · replace hsK70 := cT c39 hsK70
        refine AWp.cdT rfl (by first | rfl | simp only [c39, Bool.not_true, Bool.not_false, cond_true, cond_false]) ?_
        refine AWp.skip ?_
        refine nT ?_
        refine AWp.seq ?_
        refine AWp.block ?_
        refine AWp.seq ?_
        obtain ⟨⟨a40, a41, a42⟩, e43, hsK70⟩ := bindS hsK70
        obtain ⟨f44, f45⟩ := gtI e43
        refine AWp.rg hT hA { tk := [24] } (by (repeat (cbv; simp only [c39, f44, f45])); first | done | cbv) (lb rfl) ?_
        refine nT ?_
        obtain ⟨_, e46, hsK70⟩ := bindS hsK70
        have f48 := ckI e46
        obtain ⟨_, e47, hsK70⟩ := bindS hsK70
        have f49 := ckI e47
        obtain ⟨_, e50, hsK70⟩ := bindS hsK70
        have f52 := ckI e50
        obtain ⟨_, e51, hsK70⟩ := bindS hsK70
        have f53 := ckI e51
        obtain ⟨a54, e55, hsK70⟩ := bindS hsK70
        have f56 := gcI e55
        obtain ⟨_, e57, hsK70⟩ := bindS hsK70
        have f58 := nkI e57
        obtain ⟨_, e59, hsK70⟩ := bindS hsK70
        have f61 := ckI e59
        obtain ⟨_, e60, hsK70⟩ := bindS hsK70
        have f62 := ckI e60
        obtain ⟨_, e63, hsK70⟩ := bindS hsK70
        have f65 := ckI e63
        obtain ⟨_, e64, hsK70⟩ := bindS hsK70
        have f66 := ckI e64
        obtain ⟨d67, e68, hsK70⟩ := bindS hsK70
        refine AWp.rd hT hA { tk := [38] } rfl (by (repeat (cbv; simp only [c39, f48, f49, f52, f53, f56, f58, f61, f62, f65, f66, e68])); first | done | cbv) (by kernel_rfl) (lb rfl) ?_
        refine nB ?_
        refine nT ?_
        refine AWp.rg hT hA {} (by (repeat (cbv; simp only [c39])); first | done | cbv) (lb rfl) ?_
        exact nT ⟨_, (soI hsK70).symm, rfl, (by first | (cbv; done) | ((repeat (cbv; simp only [c39])); first | done | cbv))⟩
      · replace hsK70 := cF c39 hsK70
        refine AWp.cdF rfl (by first | rfl | simp only [c39, Bool.not_true, Bool.not_false, cond_true, cond_false]) ?_
        refine AWp.exit ?_
        refine xT ?_
        refine xT ?_
        refine exL hsK70 fun hx => ?_
        subst hx
        exact oxI ⟨rfl, _, hkK70, (by first | (cbv; done) | ((repeat (cbv; simp only [c39])); first | done | cbv))⟩
    · rintro _ ⟨v69, hkK70, rfl⟩
      have h := (hK70 _ hkK70)
      refine xB ?_
      refine nT ?_
      refine AWp.seq ?_
      refine AWp.seq ?_
      refine AWp.rg hT hA {} (by cbv) (lb rfl) ?_
      refine nT ?_
      refine AWp.block ?_
      obtain ⟨xK116, hxK116, K116, hK116, hkK116⟩ := bindK h
      refine AWp.cutX 2 [1, 4] [] 1 (lb rfl) (fun τ => ∃ v115, K116 v115 = some (.inl v219) ∧ τ = { env := [(1, (.lbox [(.d (.int .i64 x1)), (.d (.list 3 x2))])), (4, (.ptr 0 0))], heap := [(.arr 1 v115)], n := 111 }) ?_ ?_
      · skip
        refine AWp.iter hxK116 [1, 4, 45, 46] [] 1 (lb rfl) (fun (v92, v93) => { env := [(1, (.lbox [(.d (.int .i64 x1)), (.d (.list 3 x2))])), (4, (.ptr 0 0)), (45, (.d (.int .i64 x1))), (46, (.d (.int .i64 v92)))], heap := [(.arr 1 v93)], n := 111 }) ⟨rfl, (by cbv)⟩ ?_
        rintro ⟨v92, v93⟩ eK116 hsK116
        dsimp only [R58L2] at hsK116
        refine AWp.seq ?_
        refine AWp.rg hT hA {} (by cbv) (lb rfl) ?_
        refine nT ?_
        refine AWp.seq ?_
        rcases tf (A.zlt v92 x1) with c94 | c94
        · replace hsK116 := cT c94 hsK116
          refine AWp.cdT rfl (by first | rfl | simp only [c94, Bool.not_true, Bool.not_false, cond_true, cond_false]) ?_
          refine AWp.skip ?_
          refine nT ?_
          refine AWp.seq ?_
          refine AWp.block ?_
          refine AWp.seq ?_
          refine AWp.rg hT hA {} (by (repeat (cbv; simp only [c94])); first | done | cbv) (lb rfl) ?_
          refine nT ?_
          refine AWp.seq ?_
          obtain ⟨_, e95, hsK116⟩ := bindS hsK116
          have f96 := nkI e95
          refine AWp.rg hT hA { tk := [50] } (by (repeat (cbv; simp only [c94, f96])); first | done | cbv) (lb rfl) ?_
          refine nT ?_
          refine AWp.seq ?_
          refine AWp.seq ?_
          refine AWp.region ?_
          obtain ⟨r98, e97, hsK116⟩ := bindS hsK116
          refine AOps.cc hT hA { tk := [57] } (by (repeat (cbv; simp only [c94])); first | done | cbv) (lb rfl) (R68w hA e97) rfl (.inl rfl) rfl rfl rfl (lb rfl) rfl rfl ?_
          refine AOps.cd hT hA { tk := [57] } (by (repeat (cbv; simp only [c94])); first | done | cbv) (lb rfl) ?_
          refine nT ?_
          refine AWp.block ?_
          obtain ⟨xK108, hxK108, K108, hK108, hkK108⟩ := bindK hsK116
          refine AWp.cutX 4 [1, 4, 7, 8, 45, 46] [] 1 (lb rfl) (fun τ => ∃ v107, K108 v107 = some eK116 ∧ τ = { env := [(1, (.lbox [(.d (.int .i64 x1)), (.d (.list 3 x2))])), (4, (.ptr 0 0)), (7, (.d (.int .i64 v92))), (8, (.d (.int .u8 v107))), (45, (.d (.int .i64 x1))), (46, (.d (.int .i64 v92)))], heap := [(.arr 1 v93)], n := 111 }) ?_ ?_
          · skip
            refine AWp.iter hxK108 [1, 4, 7, 8, 9, 45, 46] [] 1 (lb rfl) (fun (v102, v103) => { env := [(1, (.lbox [(.d (.int .i64 x1)), (.d (.list 3 x2))])), (4, (.ptr 0 0)), (7, (.d (.int .i64 v92))), (8, (.d (.int .u8 v102))), (9, (.d (.int .u8 v103))), (45, (.d (.int .i64 x1))), (46, (.d (.int .i64 v92)))], heap := [(.arr 1 v93)], n := 111 }) ⟨rfl, (by first | (cbv; done) | ((repeat (cbv; simp only [c94])); first | done | cbv))⟩ ?_
            rintro ⟨v102, v103⟩ eK108 hsK108
            dsimp only [R58L1] at hsK108
            refine AWp.seq ?_
            refine AWp.seq ?_
            refine AWp.rg hT hA {} (by cbv) (lb rfl) ?_
            refine nT ?_
            rcases tf (A.zeq v103 v102) with c104 | c104
            · replace hsK108 := cT c104 hsK108
              refine AWp.cdF rfl (by first | rfl | simp only [c104, Bool.not_true, Bool.not_false, cond_true, cond_false]) ?_
              refine AWp.exit ?_
              refine xT ?_
              refine xT ?_
              refine exL hsK108 fun hx => ?_
              subst hx
              exact oxI ⟨rfl, _, hkK108, (by first | (cbv; done) | ((repeat (cbv; simp only [c104])); first | done | cbv))⟩
            · replace hsK108 := cF c104 hsK108
              refine AWp.cdT rfl (by first | rfl | simp only [c104, Bool.not_true, Bool.not_false, cond_true, cond_false]) ?_
              refine AWp.skip ?_
              refine nT ?_
              refine AWp.seq ?_
              refine AWp.block ?_
              refine AWp.rg hT hA { tk := [9, 68] } (by (repeat (cbv; simp only [c104])); first | done | cbv) (lb rfl) ?_
              refine nB ?_
              refine nT ?_
              refine AWp.region ?_
              obtain ⟨r106, e105, hsK108⟩ := bindS hsK108
              refine AOps.cc hT hA { tk := [67] } (by (repeat (cbv; simp only [c104])); first | done | cbv) (lb rfl) (R68w hA e105) rfl (.inl rfl) rfl rfl rfl (lb rfl) rfl rfl ?_
              refine AOps.cd hT hA { tk := [67] } (by (repeat (cbv; simp only [c104])); first | done | cbv) (lb rfl) ?_
              exact nT ⟨_, (soI hsK108).symm, rfl, (by first | (cbv; done) | ((repeat (cbv; simp only [c104])); first | done | cbv))⟩
          · rintro _ ⟨v107, hkK108, rfl⟩
            have hsK116 := (hK108 _ hkK108)
            refine xB ?_
            refine nT ?_
            obtain ⟨_, e109, hsK116⟩ := bindS hsK116
            have f111 := ckI e109
            obtain ⟨_, e110, hsK116⟩ := bindS hsK116
            have f112 := ckI e110
            obtain ⟨d113, e114, hsK116⟩ := bindS hsK116
            refine AWp.rg hT hA { tk := [8, 71] } (by (repeat (cbv; simp only [f111, f112, e114])); first | done | cbv) (lb rfl) ?_
            refine nB ?_
            refine nT ?_
            refine AWp.rg hT hA {} (by cbv) (lb rfl) ?_
            exact nT ⟨_, (soI hsK116).symm, rfl, (by cbv)⟩
        · replace hsK116 := cF c94 hsK116
          refine AWp.cdF rfl (by first | rfl | simp only [c94, Bool.not_true, Bool.not_false, cond_true, cond_false]) ?_
          refine AWp.exit ?_
          refine xT ?_
          refine xT ?_
          refine exL hsK116 fun hx => ?_
          subst hx
          exact oxI ⟨rfl, _, hkK116, (by first | (cbv; done) | ((repeat (cbv; simp only [c94])); first | done | cbv))⟩
      · rintro _ ⟨v115, hkK116, rfl⟩
        have h := (hK116 _ hkK116)
        refine xB ?_
        refine nT ?_
        refine AWp.seq ?_
        refine AWp.seq ?_
        refine AWp.rg hT hA {} (by cbv) (lb rfl) ?_
        refine nT ?_
        refine AWp.block ?_
        obtain ⟨xK218, hxK218, K218, hK218, hkK218⟩ := bindK h
        refine AWp.cutX 6 [4] [] 1 (lb rfl) (fun τ => ∃ v217, K218 v217 = some (.inl v219) ∧ τ = { env := [(4, (.ptr 0 0))], heap := [(.arr 1 v217)], n := 111 }) ?_ ?_
        · skip
          refine AWp.iter hxK218 [1, 4, 10] [] 1 (lb rfl) (fun (v166, v167) => { env := [(1, (.lbox [(.d (.int .i64 x1)), (.d (.list 3 x2))])), (4, (.ptr 0 0)), (10, (.d (.int .i64 v166)))], heap := [(.arr 1 v167)], n := 111 }) ⟨rfl, (by cbv)⟩ ?_
          rintro ⟨v166, v167⟩ eK218 hsK218
          dsimp only [R58L4] at hsK218
          refine AWp.seq ?_
          refine AWp.seq ?_
          refine AWp.rg hT hA {} (by cbv) (lb rfl) ?_
          refine nT ?_
          rcases tf (A.zle v166 3) with c168 | c168
          · replace hsK218 := cT c168 hsK218
            refine AWp.cdT rfl (by first | rfl | simp only [c168, Bool.not_true, Bool.not_false, cond_true, cond_false]) ?_
            refine AWp.skip ?_
            refine nT ?_
            refine AWp.seq ?_
            refine AWp.block ?_
            refine AWp.seq ?_
            refine AWp.rg hT hA {} (by (repeat (cbv; simp only [c168])); first | done | cbv) (lb rfl) ?_
            refine nT ?_
            refine AWp.block ?_
            obtain ⟨xK216, hxK216, K216, hK216, hkK216⟩ := bindK hsK218
            refine AWp.cutX 8 [1, 4, 10] [] 1 (lb rfl) (fun τ => ∃ v215, K216 v215 = some eK218 ∧ τ = { env := [(1, (.lbox [(.d (.int .i64 x1)), (.d (.list 3 x2))])), (4, (.ptr 0 0)), (10, (.d (.int .i64 v166)))], heap := [(.arr 1 v215)], n := 111 }) ?_ ?_
            · skip
              refine AWp.iter hxK216 [1, 4, 10, 82, 83] [] 1 (lb rfl) (fun (v191, v192) => { env := [(1, (.lbox [(.d (.int .i64 x1)), (.d (.list 3 x2))])), (4, (.ptr 0 0)), (10, (.d (.int .i64 v166))), (82, (.d (.int .i64 x1))), (83, (.d (.int .i64 v191)))], heap := [(.arr 1 v192)], n := 111 }) ⟨rfl, (by first | (cbv; done) | ((repeat (cbv; simp only [c168])); first | done | cbv))⟩ ?_
              rintro ⟨v191, v192⟩ eK216 hsK216
              dsimp only [R58L3] at hsK216
              refine AWp.seq ?_
              refine AWp.rg hT hA {} (by cbv) (lb rfl) ?_
              refine nT ?_
              refine AWp.seq ?_
              rcases tf (A.zlt v191 x1) with c193 | c193
              · replace hsK216 := cT c193 hsK216
                refine AWp.cdT rfl (by first | rfl | simp only [c193, Bool.not_true, Bool.not_false, cond_true, cond_false]) ?_
                refine AWp.skip ?_
                refine nT ?_
                refine AWp.seq ?_
                refine AWp.block ?_
                refine AWp.seq ?_
                refine AWp.rg hT hA {} (by (repeat (cbv; simp only [c193])); first | done | cbv) (lb rfl) ?_
                refine nT ?_
                refine AWp.regionDraw rfl (lb rfl) ?_
                obtain ⟨_, e194, hsK216⟩ := bindS hsK216
                have f196 := ckI e194
                obtain ⟨_, e195, hsK216⟩ := bindS hsK216
                have f197 := ckI e195
                obtain ⟨a198, e199, hsK216⟩ := bindS hsK216
                have f200 := gcI e199
                obtain ⟨r202, e201, hsK216⟩ := bindS hsK216
                refine DOps.cp hT hA { tk := [104] } rfl (by (repeat (cbv; simp only [c193, f196, f197, f200])); first | done | cbv) (R68w hA e201) rfl rfl rfl rfl (lb rfl) rfl rfl ?_
                obtain ⟨r204, e203, hsK216⟩ := bindS hsK216
                refine DOps.cp hT hA { tk := [104] } rfl (by (repeat (cbv; simp only [c193, f196, f197, f200])); first | done | cbv) (R68aw hA e203) rfl rfl rfl rfl (lb rfl) rfl rfl ?_
                obtain ⟨_, e205, hsK216⟩ := bindS hsK216
                have f207 := ckI e205
                obtain ⟨_, e206, hsK216⟩ := bindS hsK216
                have f208 := ckI e206
                obtain ⟨_, e209, hsK216⟩ := bindS hsK216
                have f211 := ckI e209
                obtain ⟨_, e210, hsK216⟩ := bindS hsK216
                have f212 := ckI e210
                obtain ⟨d213, e214, hsK216⟩ := bindS hsK216
                refine DOps.cd hT hA { tk := [104] } rfl (by (repeat (cbv; simp only [c193, f196, f197, f200, f207, f208, f211, f212, e214])); first | done | cbv) (by kernel_rfl) ?_
                refine nB ?_
                refine nT ?_
                refine AWp.rg hT hA {} (by (repeat (cbv; simp only [c193])); first | done | cbv) (lb rfl) ?_
                exact nT ⟨_, (soI hsK216).symm, rfl, (by first | (cbv; done) | ((repeat (cbv; simp only [c193])); first | done | cbv))⟩
              · replace hsK216 := cF c193 hsK216
                refine AWp.cdF rfl (by first | rfl | simp only [c193, Bool.not_true, Bool.not_false, cond_true, cond_false]) ?_
                refine AWp.exit ?_
                refine xT ?_
                refine xT ?_
                refine exL hsK216 fun hx => ?_
                subst hx
                exact oxI ⟨rfl, _, hkK216, (by first | (cbv; done) | ((repeat (cbv; simp only [c193])); first | done | cbv))⟩
            · rintro _ ⟨v215, hkK216, rfl⟩
              have hsK218 := (hK216 _ hkK216)
              refine xB ?_
              refine nB ?_
              refine nT ?_
              refine AWp.rg hT hA {} (by cbv) (lb rfl) ?_
              exact nT ⟨_, (soI hsK218).symm, rfl, (by cbv)⟩
          · replace hsK218 := cF c168 hsK218
            refine AWp.cdF rfl (by first | rfl | simp only [c168, Bool.not_true, Bool.not_false, cond_true, cond_false]) ?_
            refine AWp.exit ?_
            refine xT ?_
            refine xT ?_
            refine exL hsK218 fun hx => ?_
            subst hx
            exact oxI ⟨rfl, _, hkK218, (by first | (cbv; done) | ((repeat (cbv; simp only [c168])); first | done | cbv))⟩
        · rintro _ ⟨v217, hkK218, rfl⟩
          have h := (hK218 _ hkK218)
          refine xB ?_
          refine nT ?_
          refine AWp.seq ?_
          refine AWp.rg hT hA {} (by cbv) (lb rfl) ?_
          refine nT ?_
          refine AWp.ret ?_
          cases soI h
          exact ⟨rfl, rfl, rfl, lb rfl, _, rfl⟩
  · replace h := cF c5 h
    refine AWp.cdT rfl (by first | rfl | simp only [c5, Bool.not_true, Bool.not_false, cond_true, cond_false]) ?_
    refine AWp.seq ?_
    refine AWp.rg hT hA {} (by (repeat (cbv; simp only [c5])); first | done | cbv) (lb rfl) ?_
    refine nT ?_
    refine AWp.ret ?_
    refine rT ?_
    cases soI h

theorem R58wb {A : Ar} (hA : A = Ar.std) {x1 : Int} {x2 : List D} (h : R58 A x1 x2 = some (.inr ())) : ACall Try.prog 58 [(.d (.agg [(.int .i64 x1), (.list 3 x2)]))] [] (.tuple [.nilptr, (.d (.int .i64 50))]) [] := by
  unfold R58 at h
  refine ACall.enter hT (fn := Try.f58) Try.func58 rfl (by decide) (by simp [Try.f58]) rfl rfl rfl rfl (lb rfl) ?_
  refine AWp.seq ?_
  refine AWp.rg hT hA {} (by cbv) (lb rfl) ?_
  refine nT ?_
  refine AWp.seq ?_
  refine AWp.seq ?_
  refine AWp.region ?_
  obtain ⟨r4, e3, h⟩ := bindS h
  refine AOps.cc hT hA {} (by cbv) (lb rfl) (R33w hA e3) rfl (.inl rfl) rfl rfl rfl (lb rfl) rfl rfl ?_
  refine AOps.cd hT hA {} (by cbv) (lb rfl) ?_
  refine nT ?_
  rcases tf r4 with c5 | c5
  · replace h := cT c5 h
    refine AWp.cdF rfl (by first | rfl | simp only [c5, Bool.not_true, Bool.not_false, cond_true, cond_false]) ?_
    refine AWp.skip ?_
    refine nT ?_
    refine AWp.seq ?_
    have f6 := lnF hA (l := [(.int .i64 x1), (.list 3 x2), (.int .u8 0), (.int .u8 0), (.int .u8 0), (.int .u8 0), (.int .u8 0), (.int .u8 0), (.int .u8 0), (.int .u8 0), (.int .u8 0), (.int .u8 0), (.int .u8 0), (.int .u8 0), (.int .u8 0), (.int .u8 0), (.int .u8 0), (.int .u8 0), (.int .u8 0), (.int .u8 0), (.int .u8 0), (.int .u8 0), (.int .u8 0), (.int .u8 0), (.int .u8 0), (.int .u8 0), (.int .u8 0), (.int .u8 0), (.int .u8 0), (.int .u8 0), (.int .u8 0), (.int .u8 0), (.int .u8 0), (.int .u8 0), (.int .u8 0), (.int .u8 0), (.int .u8 0), (.int .u8 0), (.int .u8 0), (.int .u8 0), (.int .u8 0), (.int .u8 0), (.int .u8 0), (.int .u8 0), (.int .u8 0), (.int .u8 0), (.int .u8 0), (.int .u8 0), (.int .u8 0), (.int .u8 0)]) (n := 50) rfl
    refine AWp.rg hT hA { arr := [17] } (by (repeat (cbv; simp only [c5, f6])); first | done | cbv) (lb rfl) ?_
    refine nT ?_
    refine AWp.seq ?_
    refine AWp.seq ?_
    refine AWp.rg hT hA {} (by (repeat (cbv; simp only [c5])); first | done | cbv) (lb rfl) ?_
    refine nT ?_
    refine AWp.block ?_
    obtain ⟨xK70, hxK70, K70, hK70, hkK70⟩ := bindK h
    refine AWp.cutX 0 [1, 4] [] 1 (lb rfl) (fun τ => ∃ v69, K70 v69 = some (.inr ()) ∧ τ = { env := [(1, (.lbox [(.d (.int .i64 x1)), (.d (.list 3 x2))])), (4, (.ptr 0 0))], heap := [(.arr 1 v69)], n := 111 }) ?_ ?_
    · skip
      refine AWp.iter hxK70 [1, 4, 19, 20, 21] [] 1 (lb rfl) (fun (v37, v38) => { env := [(1, (.lbox [(.d (.int .i64 x1)), (.d (.list 3 x2))])), (4, (.ptr 0 0)), (19, (.d (.list 3 x2))), (20, (.d (.int .i64 (A.len x2)))), (21, (.d (.int .i64 v37)))], heap := [(.arr 1 v38)], n := 111 }) ⟨rfl, (by first | (cbv; done) | ((repeat (cbv; simp only [c5])); first | done | cbv))⟩ ?_
      rintro ⟨v37, v38⟩ eK70 hsK70
      dsimp only [R58L0] at hsK70
      refine AWp.seq ?_
      refine AWp.rg hT hA {} (by cbv) (lb rfl) ?_
      refine nT ?_
      refine AWp.seq ?_
      rcases tf (A.zlt v37 (A.len x2)) with c39 | c39
      · replace hsK70 := cT c39 hsK70
        refine AWp.cdT rfl (by first | rfl | simp only [c39, Bool.not_true, Bool.not_false, cond_true, cond_false]) ?_
        refine AWp.skip ?_
        refine nT ?_
        refine AWp.seq ?_
        refine AWp.block ?_
        refine AWp.seq ?_
        obtain ⟨⟨a40, a41, a42⟩, e43, hsK70⟩ := bindS hsK70
        obtain ⟨f44, f45⟩ := gtI e43
        refine AWp.rg hT hA { tk := [24] } (by (repeat (cbv; simp only [c39, f44, f45])); first | done | cbv) (lb rfl) ?_
        refine nT ?_
        obtain ⟨_, e46, hsK70⟩ := bindS hsK70
        have f48 := ckI e46
        obtain ⟨_, e47, hsK70⟩ := bindS hsK70
        have f49 := ckI e47
        obtain ⟨_, e50, hsK70⟩ := bindS hsK70
        have f52 := ckI e50
        obtain ⟨_, e51, hsK70⟩ := bindS hsK70
        have f53 := ckI e51
        obtain ⟨a54, e55, hsK70⟩ := bindS hsK70
        have f56 := gcI e55
        obtain ⟨_, e57, hsK70⟩ := bindS hsK70
        have f58 := nkI e57
        obtain ⟨_, e59, hsK70⟩ := bindS hsK70
        have f61 := ckI e59
        obtain ⟨_, e60, hsK70⟩ := bindS hsK70
        have f62 := ckI e60
        obtain ⟨_, e63, hsK70⟩ := bindS hsK70
        have f65 := ckI e63
        obtain ⟨_, e64, hsK70⟩ := bindS hsK70
        have f66 := ckI e64
        obtain ⟨d67, e68, hsK70⟩ := bindS hsK70
        refine AWp.rd hT hA { tk := [38] } rfl (by (repeat (cbv; simp only [c39, f48, f49, f52, f53, f56, f58, f61, f62, f65, f66, e68])); first | done | cbv) (by kernel_rfl) (lb rfl) ?_
        refine nB ?_
        refine nT ?_
        refine AWp.rg hT hA {} (by (repeat (cbv; simp only [c39])); first | done | cbv) (lb rfl) ?_
        exact nT ⟨_, (soI hsK70).symm, rfl, (by first | (cbv; done) | ((repeat (cbv; simp only [c39])); first | done | cbv))⟩
      · replace hsK70 := cF c39 hsK70
        refine AWp.cdF rfl (by first | rfl | simp only [c39, Bool.not_true, Bool.not_false, cond_true, cond_false]) ?_
        refine AWp.exit ?_
        refine xT ?_
        refine xT ?_
        refine exL hsK70 fun hx => ?_
        subst hx
        exact oxI ⟨rfl, _, hkK70, (by first | (cbv; done) | ((repeat (cbv; simp only [c39])); first | done | cbv))⟩
    · rintro _ ⟨v69, hkK70, rfl⟩
      have h := (hK70 _ hkK70)
      refine xB ?_
      refine nT ?_
      refine AWp.seq ?_
      refine AWp.seq ?_
      refine AWp.rg hT hA {} (by cbv) (lb rfl) ?_
      refine nT ?_
      refine AWp.block ?_
      obtain ⟨xK116, hxK116, K116, hK116, hkK116⟩ := bindK h
      refine AWp.cutX 2 [1, 4] [] 1 (lb rfl) (fun τ => ∃ v115, K116 v115 = some (.inr ()) ∧ τ = { env := [(1, (.lbox [(.d (.int .i64 x1)), (.d (.list 3 x2))])), (4, (.ptr 0 0))], heap := [(.arr 1 v115)], n := 111 }) ?_ ?_
      · skip
        refine AWp.iter hxK116 [1, 4, 45, 46] [] 1 (lb rfl) (fun (v92, v93) => { env := [(1, (.lbox [(.d (.int .i64 x1)), (.d (.list 3 x2))])), (4, (.ptr 0 0)), (45, (.d (.int .i64 x1))), (46, (.d (.int .i64 v92)))], heap := [(.arr 1 v93)], n := 111 }) ⟨rfl, (by cbv)⟩ ?_
        rintro ⟨v92, v93⟩ eK116 hsK116
        dsimp only [R58L2] at hsK116
        refine AWp.seq ?_
        refine AWp.rg hT hA {} (by cbv) (lb rfl) ?_
        refine nT ?_
        refine AWp.seq ?_
        rcases tf (A.zlt v92 x1) with c94 | c94
        · replace hsK116 := cT c94 hsK116
          refine AWp.cdT rfl (by first | rfl | simp only [c94, Bool.not_true, Bool.not_false, cond_true, cond_false]) ?_
          refine AWp.skip ?_
          refine nT ?_
          refine AWp.seq ?_
          refine AWp.block ?_
          refine AWp.seq ?_
          refine AWp.rg hT hA {} (by (repeat (cbv; simp only [c94])); first | done | cbv) (lb rfl) ?_
          refine nT ?_
          refine AWp.seq ?_
          obtain ⟨_, e95, hsK116⟩ := bindS hsK116
          have f96 := nkI e95
          refine AWp.rg hT hA { tk := [50] } (by (repeat (cbv; simp only [c94, f96])); first | done | cbv) (lb rfl) ?_
          refine nT ?_
          refine AWp.seq ?_
          refine AWp.seq ?_
          refine AWp.region ?_
          obtain ⟨r98, e97, hsK116⟩ := bindS hsK116
          refine AOps.cc hT hA { tk := [57] } (by (repeat (cbv; simp only [c94])); first | done | cbv) (lb rfl) (R68w hA e97) rfl (.inl rfl) rfl rfl rfl (lb rfl) rfl rfl ?_
          refine AOps.cd hT hA { tk := [57] } (by (repeat (cbv; simp only [c94])); first | done | cbv) (lb rfl) ?_
          refine nT ?_
          refine AWp.block ?_
          obtain ⟨xK108, hxK108, K108, hK108, hkK108⟩ := bindK hsK116
          refine AWp.cutX 4 [1, 4, 7, 8, 45, 46] [] 1 (lb rfl) (fun τ => ∃ v107, K108 v107 = some eK116 ∧ τ = { env := [(1, (.lbox [(.d (.int .i64 x1)), (.d (.list 3 x2))])), (4, (.ptr 0 0)), (7, (.d (.int .i64 v92))), (8, (.d (.int .u8 v107))), (45, (.d (.int .i64 x1))), (46, (.d (.int .i64 v92)))], heap := [(.arr 1 v93)], n := 111 }) ?_ ?_
          · skip
            refine AWp.iter hxK108 [1, 4, 7, 8, 9, 45, 46] [] 1 (lb rfl) (fun (v102, v103) => { env := [(1, (.lbox [(.d (.int .i64 x1)), (.d (.list 3 x2))])), (4, (.ptr 0 0)), (7, (.d (.int .i64 v92))), (8, (.d (.int .u8 v102))), (9, (.d (.int .u8 v103))), (45, (.d (.int .i64 x1))), (46, (.d (.int .i64 v92)))], heap := [(.arr 1 v93)], n := 111 }) ⟨rfl, (by first | (cbv; done) | ((repeat (cbv; simp only [c94])); first | done | cbv))⟩ ?_
            rintro ⟨v102, v103⟩ eK108 hsK108
            dsimp only [R58L1] at hsK108
            refine AWp.seq ?_
            refine AWp.seq ?_
            refine AWp.rg hT hA {} (by cbv) (lb rfl) ?_
            refine nT ?_
            rcases tf (A.zeq v103 v102) with c104 | c104
            · replace hsK108 := cT c104 hsK108
              refine AWp.cdF rfl (by first | rfl | simp only [c104, Bool.not_true, Bool.not_false, cond_true, cond_false]) ?_
              refine AWp.exit ?_
              refine xT ?_
              refine xT ?_
              refine exL hsK108 fun hx => ?_
              subst hx
              exact oxI ⟨rfl, _, hkK108, (by first | (cbv; done) | ((repeat (cbv; simp only [c104])); first | done | cbv))⟩
            · replace hsK108 := cF c104 hsK108
              refine AWp.cdT rfl (by first | rfl | simp only [c104, Bool.not_true, Bool.not_false, cond_true, cond_false]) ?_
              refine AWp.skip ?_
              refine nT ?_
              refine AWp.seq ?_
              refine AWp.block ?_
              refine AWp.rg hT hA { tk := [9, 68] } (by (repeat (cbv; simp only [c104])); first | done | cbv) (lb rfl) ?_
              refine nB ?_
              refine nT ?_
              refine AWp.region ?_
              obtain ⟨r106, e105, hsK108⟩ := bindS hsK108
              refine AOps.cc hT hA { tk := [67] } (by (repeat (cbv; simp only [c104])); first | done | cbv) (lb rfl) (R68w hA e105) rfl (.inl rfl) rfl rfl rfl (lb rfl) rfl rfl ?_
              refine AOps.cd hT hA { tk := [67] } (by (repeat (cbv; simp only [c104])); first | done | cbv) (lb rfl) ?_
              exact nT ⟨_, (soI hsK108).symm, rfl, (by first | (cbv; done) | ((repeat (cbv; simp only [c104])); first | done | cbv))⟩
          · rintro _ ⟨v107, hkK108, rfl⟩
            have hsK116 := (hK108 _ hkK108)
            refine xB ?_
            refine nT ?_
            obtain ⟨_, e109, hsK116⟩ := bindS hsK116
            have f111 := ckI e109
            obtain ⟨_, e110, hsK116⟩ := bindS hsK116
            have f112 := ckI e110
            obtain ⟨d113, e114, hsK116⟩ := bindS hsK116
            refine AWp.rg hT hA { tk := [8, 71] } (by (repeat (cbv; simp only [f111, f112, e114])); first | done | cbv) (lb rfl) ?_
            refine nB ?_
            refine nT ?_
            refine AWp.rg hT hA {} (by cbv) (lb rfl) ?_
            exact nT ⟨_, (soI hsK116).symm, rfl, (by cbv)⟩
        · replace hsK116 := cF c94 hsK116
          refine AWp.cdF rfl (by first | rfl | simp only [c94, Bool.not_true, Bool.not_false, cond_true, cond_false]) ?_
          refine AWp.exit ?_
          refine xT ?_
          refine xT ?_
          refine exL hsK116 fun hx => ?_
          subst hx
          exact oxI ⟨rfl, _, hkK116, (by first | (cbv; done) | ((repeat (cbv; simp only [c94])); first | done | cbv))⟩
      · rintro _ ⟨v115, hkK116, rfl⟩
        have h := (hK116 _ hkK116)
        refine xB ?_
        refine nT ?_
        refine AWp.seq ?_
        refine AWp.seq ?_
        refine AWp.rg hT hA {} (by cbv) (lb rfl) ?_
        refine nT ?_
        refine AWp.block ?_
        obtain ⟨xK218, hxK218, K218, hK218, hkK218⟩ := bindK h
        refine AWp.cutX 6 [4] [] 1 (lb rfl) (fun τ => ∃ v217, K218 v217 = some (.inr ()) ∧ τ = { env := [(4, (.ptr 0 0))], heap := [(.arr 1 v217)], n := 111 }) ?_ ?_
        · skip
          refine AWp.iter hxK218 [1, 4, 10] [] 1 (lb rfl) (fun (v166, v167) => { env := [(1, (.lbox [(.d (.int .i64 x1)), (.d (.list 3 x2))])), (4, (.ptr 0 0)), (10, (.d (.int .i64 v166)))], heap := [(.arr 1 v167)], n := 111 }) ⟨rfl, (by cbv)⟩ ?_
          rintro ⟨v166, v167⟩ eK218 hsK218
          dsimp only [R58L4] at hsK218
          refine AWp.seq ?_
          refine AWp.seq ?_
          refine AWp.rg hT hA {} (by cbv) (lb rfl) ?_
          refine nT ?_
          rcases tf (A.zle v166 3) with c168 | c168
          · replace hsK218 := cT c168 hsK218
            refine AWp.cdT rfl (by first | rfl | simp only [c168, Bool.not_true, Bool.not_false, cond_true, cond_false]) ?_
            refine AWp.skip ?_
            refine nT ?_
            refine AWp.seq ?_
            refine AWp.block ?_
            refine AWp.seq ?_
            refine AWp.rg hT hA {} (by (repeat (cbv; simp only [c168])); first | done | cbv) (lb rfl) ?_
            refine nT ?_
            refine AWp.block ?_
            obtain ⟨xK216, hxK216, K216, hK216, hkK216⟩ := bindK hsK218
            refine AWp.cutX 8 [1, 4, 10] [] 1 (lb rfl) (fun τ => ∃ v215, K216 v215 = some eK218 ∧ τ = { env := [(1, (.lbox [(.d (.int .i64 x1)), (.d (.list 3 x2))])), (4, (.ptr 0 0)), (10, (.d (.int .i64 v166)))], heap := [(.arr 1 v215)], n := 111 }) ?_ ?_
            · skip
              refine AWp.iter hxK216 [1, 4, 10, 82, 83] [] 1 (lb rfl) (fun (v191, v192) => { env := [(1, (.lbox [(.d (.int .i64 x1)), (.d (.list 3 x2))])), (4, (.ptr 0 0)), (10, (.d (.int .i64 v166))), (82, (.d (.int .i64 x1))), (83, (.d (.int .i64 v191)))], heap := [(.arr 1 v192)], n := 111 }) ⟨rfl, (by first | (cbv; done) | ((repeat (cbv; simp only [c168])); first | done | cbv))⟩ ?_
              rintro ⟨v191, v192⟩ eK216 hsK216
              dsimp only [R58L3] at hsK216
              refine AWp.seq ?_
              refine AWp.rg hT hA {} (by cbv) (lb rfl) ?_
              refine nT ?_
              refine AWp.seq ?_
              rcases tf (A.zlt v191 x1) with c193 | c193
              · replace hsK216 := cT c193 hsK216
                refine AWp.cdT rfl (by first | rfl | simp only [c193, Bool.not_true, Bool.not_false, cond_true, cond_false]) ?_
                refine AWp.skip ?_
                refine nT ?_
                refine AWp.seq ?_
                refine AWp.block ?_
                refine AWp.seq ?_
                refine AWp.rg hT hA {} (by (repeat (cbv; simp only [c193])); first | done | cbv) (lb rfl) ?_
                refine nT ?_
                refine AWp.regionDraw rfl (lb rfl) ?_
                obtain ⟨_, e194, hsK216⟩ := bindS hsK216
                have f196 := ckI e194
                obtain ⟨_, e195, hsK216⟩ := bindS hsK216
                have f197 := ckI e195
                obtain ⟨a198, e199, hsK216⟩ := bindS hsK216
                have f200 := gcI e199
                obtain ⟨r202, e201, hsK216⟩ := bindS hsK216
                refine DOps.cp hT hA { tk := [104] } rfl (by (repeat (cbv; simp only [c193, f196, f197, f200])); first | done | cbv) (R68w hA e201) rfl rfl rfl rfl (lb rfl) rfl rfl ?_
                obtain ⟨r204, e203, hsK216⟩ := bindS hsK216
                refine DOps.cp hT hA { tk := [104] } rfl (by (repeat (cbv; simp only [c193, f196, f197, f200])); first | done | cbv) (R68aw hA e203) rfl rfl rfl rfl (lb rfl) rfl rfl ?_
                obtain ⟨_, e205, hsK216⟩ := bindS hsK216
                have f207 := ckI e205
                obtain ⟨_, e206, hsK216⟩ := bindS hsK216
                have f208 := ckI e206
                obtain ⟨_, e209, hsK216⟩ := bindS hsK216
                have f211 := ckI e209
                obtain ⟨_, e210, hsK216⟩ := bindS hsK216
                have f212 := ckI e210
                obtain ⟨d213, e214, hsK216⟩ := bindS hsK216
                refine DOps.cd hT hA { tk := [104] } rfl (by (repeat (cbv; simp only [c193, f196, f197, f200, f207, f208, f211, f212, e214])); first | done | cbv) (by kernel_rfl) ?_
                refine nB ?_
                refine nT ?_
                refine AWp.rg hT hA {} (by (repeat (cbv; simp only [c193])); first | done | cbv) (lb rfl) ?_
                exact nT ⟨_, (soI hsK216).symm, rfl, (by first | (cbv; done) | ((repeat (cbv; simp only [c193])); first | done | cbv))⟩
              · replace hsK216 := cF c193 hsK216
                refine AWp.cdF rfl (by first | rfl | simp only [c193, Bool.not_true, Bool.not_false, cond_true, cond_false]) ?_
                refine AWp.exit ?_
                refine xT ?_
                refine xT ?_
                refine exL hsK216 fun hx => ?_
                subst hx
                exact oxI ⟨rfl, _, hkK216, (by first | (cbv; done) | ((repeat (cbv; simp only [c193])); first | done | cbv))⟩
            · rintro _ ⟨v215, hkK216, rfl⟩
              have hsK218 := (hK216 _ hkK216)
              refine xB ?_
              refine nB ?_
              refine nT ?_
              refine AWp.rg hT hA {} (by cbv) (lb rfl) ?_
              exact nT ⟨_, (soI hsK218).symm, rfl, (by cbv)⟩
          · replace hsK218 := cF c168 hsK218
            refine AWp.cdF rfl (by first | rfl | simp only [c168, Bool.not_true, Bool.not_false, cond_true, cond_false]) ?_
            refine AWp.exit ?_
            refine xT ?_
            refine xT ?_
            refine exL hsK218 fun hx => ?_
            subst hx
            exact oxI ⟨rfl, _, hkK218, (by first | (cbv; done) | ((repeat (cbv; simp only [c168])); first | done | cbv))⟩
        · rintro _ ⟨v217, hkK218, rfl⟩
          have h := (hK218 _ hkK218)
          refine xB ?_
          refine nT ?_
          refine AWp.seq ?_
          refine AWp.rg hT hA {} (by cbv) (lb rfl) ?_
          refine nT ?_
          refine AWp.ret ?_
          cases soI h
  · replace h := cF c5 h
    refine AWp.cdT rfl (by first | rfl | simp only [c5, Bool.not_true, Bool.not_false, cond_true, cond_false]) ?_
    refine AWp.seq ?_
    refine AWp.rg hT hA {} (by (repeat (cbv; simp only [c5])); first | done | cbv) (lb rfl) ?_
    refine nT ?_
    refine AWp.ret ?_
    refine rT ?_
    cases soI h
    exact ⟨rfl, rfl, rfl, lb rfl, _, rfl⟩

theorem R68bw {A : Ar} (hA : A = Ar.std) {x1 : Int} {x2 : Int} {x3 : List D} {x4 : List D} {v43 : Int} (h : R68b A x1 x2 x3 x4 = some v43) : ACall Try.prog 68 [(.ptr 1 2), (.d (.int .i64 x1)), (.d (.int .u8 x2))] [(.arr 1 x3), (.arr 1 x4)] (.d (.int .u8 v43)) [(.arr 1 x3), (.arr 1 x4)] := by
  unfold R68b at h
  refine ACall.enter hT (fn := Try.f68) Try.func68 rfl (by decide) (by simp [Try.f68]) rfl rfl rfl rfl (lb rfl) ?_
  refine AWp.seq ?_
  refine AWp.rg hT hA {} (by cbv) (lb rfl) ?_
  refine nT ?_
  refine AWp.seq ?_
  refine AWp.rg hT hA {} (by cbv) (lb rfl) ?_
  refine nT ?_
  refine AWp.seq ?_
  refine AWp.seq ?_
  refine AWp.region ?_
  obtain ⟨r6, e5, h⟩ := bindS h
  refine AOps.cc hT hA {} (by cbv) (lb rfl) (R76w hA e5) rfl (.inr rfl) rfl rfl rfl (lb rfl) rfl rfl ?_
  refine AOps.cd hT hA {} (by cbv) (lb rfl) ?_
  refine nT ?_
  refine AWp.block ?_
  obtain ⟨xK42, hxK42, K42, hK42, hkK42⟩ := bindK h
  refine AWp.cutX 0 [7] [] 2 (lb rfl) (fun τ => ∃ v41, K42 v41 = some v43 ∧ τ = { env := [(7, (.d (.int .u8 v41)))], heap := [(.arr 1 x3), (.arr 1 x4)], n := 28 }) ?_ ?_
  · skip
    refine AWp.iter hxK42 [0, 1, 7, 11, 12, 13] [] 2 (lb rfl) (fun (v23, v24) => { env := [(0, (.ptr 1 2)), (1, (.d (.int .i64 x1))), (7, (.d (.int .u8 v23))), (11, (.own 1 r6)), (12, (.d (.int .i64 (A.len r6)))), (13, (.d (.int .i64 v24)))], heap := [(.arr 1 x3), (.arr 1 x4)], n := 28 }) ⟨rfl, (by cbv)⟩ ?_
    rintro ⟨v23, v24⟩ eK42 hsK42
    dsimp only [R68bL0] at hsK42
    refine AWp.seq ?_
    refine AWp.rg hT hA {} (by cbv) (lb rfl) ?_
    refine nT ?_
    refine AWp.seq ?_
    rcases tf (A.zlt v24 (A.len r6)) with c25 | c25
    · replace hsK42 := cT c25 hsK42
      refine AWp.cdT rfl (by first | rfl | simp only [c25, Bool.not_true, Bool.not_false, cond_true, cond_false]) ?_
      refine AWp.skip ?_
      refine nT ?_
      refine AWp.seq ?_
      refine AWp.block ?_
      refine AWp.seq ?_
      obtain ⟨a26, e27, hsK42⟩ := bindS hsK42
      obtain ⟨f28, f29⟩ := gtI e27
      refine AWp.rg hT hA {} (by (repeat (cbv; simp only [c25, f28, f29])); first | done | cbv) (lb rfl) ?_
      refine nT ?_
      obtain ⟨_, e30, hsK42⟩ := bindS hsK42
      have f32 := ckI e30
      obtain ⟨_, e31, hsK42⟩ := bindS hsK42
      have f33 := ckI e31
      obtain ⟨_, e34, hsK42⟩ := bindS hsK42
      have f36 := ckI e34
      obtain ⟨_, e35, hsK42⟩ := bindS hsK42
      have f37 := ckI e35
      obtain ⟨a38, e39, hsK42⟩ := bindS hsK42
      have f40 := gcI e39
      refine AWp.rg hT hA { tk := [25] } (by (repeat (cbv; simp only [c25, f32, f33, f36, f37, f40])); first | done | cbv) (lb rfl) ?_
      refine nB ?_
      refine nT ?_
      refine AWp.rg hT hA {} (by (repeat (cbv; simp only [c25])); first | done | cbv) (lb rfl) ?_
      exact nT ⟨_, (soI hsK42).symm, rfl, (by first | (cbv; done) | ((repeat (cbv; simp only [c25])); first | done | cbv))⟩
    · replace hsK42 := cF c25 hsK42
      refine AWp.cdF rfl (by first | rfl | simp only [c25, Bool.not_true, Bool.not_false, cond_true, cond_false]) ?_
      refine AWp.exit ?_
      refine xT ?_
      refine xT ?_
      refine exL hsK42 fun hx => ?_
      subst hx
      exact oxI ⟨rfl, _, hkK42, (by first | (cbv; done) | ((repeat (cbv; simp only [c25])); first | done | cbv))⟩
  · rintro _ ⟨v41, hkK42, rfl⟩
    have h := (hK42 _ hkK42)
    refine xB ?_
    refine nT ?_
    refine AWp.seq ?_
    refine AWp.rg hT hA { tk := [7, 27] } (by cbv) (lb rfl) ?_
    refine nT ?_
    refine AWp.ret ?_
    cases soI h
    exact ⟨rfl, rfl, rfl, lb rfl, _, rfl⟩

theorem R68cw {A : Ar} (hA : A = Ar.std) {x1 : Int} {x2 : Int} {x3 : List D} {x4 : List D} {v43 : Int} (h : R68c A x1 x2 x3 x4 = some v43) : ACall Try.prog 68 [(.ptr 1 26), (.d (.int .i64 x1)), (.d (.int .u8 x2))] [(.arr 1 x3), (.arr 1 x4)] (.d (.int .u8 v43)) [(.arr 1 x3), (.arr 1 x4)] := by
  unfold R68c at h
  refine ACall.enter hT (fn := Try.f68) Try.func68 rfl (by decide) (by simp [Try.f68]) rfl rfl rfl rfl (lb rfl) ?_
  refine AWp.seq ?_
  refine AWp.rg hT hA {} (by cbv) (lb rfl) ?_
  refine nT ?_
  refine AWp.seq ?_
  refine AWp.rg hT hA {} (by cbv) (lb rfl) ?_
  refine nT ?_
  refine AWp.seq ?_
  refine AWp.seq ?_
  refine AWp.region ?_
  obtain ⟨r6, e5, h⟩ := bindS h
  refine AOps.cc hT hA {} (by cbv) (lb rfl) (R76w hA e5) rfl (.inr rfl) rfl rfl rfl (lb rfl) rfl rfl ?_
  refine AOps.cd hT hA {} (by cbv) (lb rfl) ?_
  refine nT ?_
  refine AWp.block ?_
  obtain ⟨xK42, hxK42, K42, hK42, hkK42⟩ := bindK h
  refine AWp.cutX 0 [7] [] 2 (lb rfl) (fun τ => ∃ v41, K42 v41 = some v43 ∧ τ = { env := [(7, (.d (.int .u8 v41)))], heap := [(.arr 1 x3), (.arr 1 x4)], n := 28 }) ?_ ?_
  · skip
    refine AWp.iter hxK42 [0, 1, 7, 11, 12, 13] [] 2 (lb rfl) (fun (v23, v24) => { env := [(0, (.ptr 1 26)), (1, (.d (.int .i64 x1))), (7, (.d (.int .u8 v23))), (11, (.own 1 r6)), (12, (.d (.int .i64 (A.len r6)))), (13, (.d (.int .i64 v24)))], heap := [(.arr 1 x3), (.arr 1 x4)], n := 28 }) ⟨rfl, (by cbv)⟩ ?_
    rintro ⟨v23, v24⟩ eK42 hsK42
    dsimp only [R68cL0] at hsK42
    refine AWp.seq ?_
    refine AWp.rg hT hA {} (by cbv) (lb rfl) ?_
    refine nT ?_
    refine AWp.seq ?_
    rcases tf (A.zlt v24 (A.len r6)) with c25 | c25
    · replace hsK42 := cT c25 hsK42
      refine AWp.cdT rfl (by first | rfl | simp only [c25, Bool.not_true, Bool.not_false, cond_true, cond_false]) ?_
      refine AWp.skip ?_
      refine nT ?_
      refine AWp.seq ?_
      refine AWp.block ?_
      refine AWp.seq ?_
      obtain ⟨a26, e27, hsK42⟩ := bindS hsK42
      obtain ⟨f28, f29⟩ := gtI e27
      refine AWp.rg hT hA {} (by (repeat (cbv; simp only [c25, f28, f29])); first | done | cbv) (lb rfl) ?_
      refine nT ?_
      obtain ⟨_, e30, hsK42⟩ := bindS hsK42
      have f32 := ckI e30
      obtain ⟨_, e31, hsK42⟩ := bindS hsK42
      have f33 := ckI e31
      obtain ⟨_, e34, hsK42⟩ := bindS hsK42
      have f36 := ckI e34
      obtain ⟨_, e35, hsK42⟩ := bindS hsK42
      have f37 := ckI e35
      obtain ⟨a38, e39, hsK42⟩ := bindS hsK42
      have f40 := gcI e39
      refine AWp.rg hT hA { tk := [25] } (by (repeat (cbv; simp only [c25, f32, f33, f36, f37, f40])); first | done | cbv) (lb rfl) ?_
      refine nB ?_
      refine nT ?_
      refine AWp.rg hT hA {} (by (repeat (cbv; simp only [c25])); first | done | cbv) (lb rfl) ?_
      exact nT ⟨_, (soI hsK42).symm, rfl, (by first | (cbv; done) | ((repeat (cbv; simp only [c25])); first | done | cbv))⟩
    · replace hsK42 := cF c25 hsK42
      refine AWp.cdF rfl (by first | rfl | simp only [c25, Bool.not_true, Bool.not_false, cond_true, cond_false]) ?_
      refine AWp.exit ?_
      refine xT ?_
      refine xT ?_
      refine exL hsK42 fun hx => ?_
      subst hx
      exact oxI ⟨rfl, _, hkK42, (by first | (cbv; done) | ((repeat (cbv; simp only [c25])); first | done | cbv))⟩
  · rintro _ ⟨v41, hkK42, rfl⟩
    have h := (hK42 _ hkK42)
    refine xB ?_
    refine nT ?_
    refine AWp.seq ?_
    refine AWp.rg hT hA { tk := [7, 27] } (by cbv) (lb rfl) ?_
    refine nT ?_
    refine AWp.ret ?_
    cases soI h
    exact ⟨rfl, rfl, rfl, lb rfl, _, rfl⟩

theorem R58awa {A : Ar} (hA : A = Ar.std) {x1 : Int} {x2 : List D} {x3 : List D} {v220 : List D} (h : R58a A x1 x2 x3 = some (.inl v220)) : ACall Try.prog 58 [(.d (.agg [(.int .i64 x1), (.list 3 x2)]))] [(.arr 1 x3)] (.tuple [(.ptr 1 0), (.d (.int .i64 0))]) [(.arr 1 x3), (.arr 1 v220)] := by
  unfold R58a at h
  refine ACall.enter hT (fn := Try.f58) Try.func58 rfl (by decide) (by simp [Try.f58]) rfl rfl rfl rfl (lb rfl) ?_
  refine AWp.seq ?_
  refine AWp.rg hT hA {} (by cbv) (lb rfl) ?_
  refine nT ?_
  refine AWp.seq ?_
  refine AWp.seq ?_
  refine AWp.region ?_
  obtain ⟨r5, e4, h⟩ := bindS h
  refine AOps.cc hT hA {} (by cbv) (lb rfl) (R33w hA e4) rfl (.inr rfl) rfl rfl rfl (lb rfl) rfl rfl ?_
  refine AOps.cd hT hA {} (by cbv) (lb rfl) ?_
  refine nT ?_
  rcases tf r5 with c6 | c6
  · replace h := cT c6 h
    refine AWp.cdF rfl (by first | rfl | simp only [c6, Bool.not_true, Bool.not_false, cond_true, cond_false]) ?_
    refine AWp.skip ?_
    refine nT ?_
    refine AWp.seq ?_
    have f7 := lnF hA (l := [(.int .i64 x1), (.list 3 x2), (.int .u8 0), (.int .u8 0), (.int .u8 0), (.int .u8 0), (.int .u8 0), (.int .u8 0), (.int .u8 0), (.int .u8 0), (.int .u8 0), (.int .u8 0), (.int .u8 0), (.int .u8 0), (.int .u8 0), (.int .u8 0), (.int .u8 0), (.int .u8 0), (.int .u8 0), (.int .u8 0), (.int .u8 0), (.int .u8 0), (.int .u8 0), (.int .u8 0), (.int .u8 0), (.int .u8 0), (.int .u8 0), (.int .u8 0), (.int .u8 0), (.int .u8 0), (.int .u8 0), (.int .u8 0), (.int .u8 0), (.int .u8 0), (.int .u8 0), (.int .u8 0), (.int .u8 0), (.int .u8 0), (.int .u8 0), (.int .u8 0), (.int .u8 0), (.int .u8 0), (.int .u8 0), (.int .u8 0), (.int .u8 0), (.int .u8 0), (.int .u8 0), (.int .u8 0), (.int .u8 0), (.int .u8 0)]) (n := 50) rfl
    refine AWp.rg hT hA { arr := [17] } (by (repeat (cbv; simp only [c6, f7])); first | done | cbv) (lb rfl) ?_
    refine nT ?_
    refine AWp.seq ?_
    refine AWp.seq ?_
    refine AWp.rg hT hA {} (by (repeat (cbv; simp only [c6])); first | done | cbv) (lb rfl) ?_
    refine nT ?_
    refine AWp.block ?_
    obtain ⟨xK71, hxK71, K71, hK71, hkK71⟩ := bindK h
    refine AWp.cutX 0 [1, 4] [] 2 (lb rfl) (fun τ => ∃ v70, K71 v70 = some (.inl v220) ∧ τ = { env := [(1, (.lbox [(.d (.int .i64 x1)), (.d (.list 3 x2))])), (4, (.ptr 1 0))], heap := [(.arr 1 x3), (.arr 1 v70)], n := 111 }) ?_ ?_
    · skip
      refine AWp.iter hxK71 [1, 4, 19, 20, 21] [] 2 (lb rfl) (fun (v38, v39) => { env := [(1, (.lbox [(.d (.int .i64 x1)), (.d (.list 3 x2))])), (4, (.ptr 1 0)), (19, (.d (.list 3 x2))), (20, (.d (.int .i64 (A.len x2)))), (21, (.d (.int .i64 v38)))], heap := [(.arr 1 x3), (.arr 1 v39)], n := 111 }) ⟨rfl, (by first | (cbv; done) | ((repeat (cbv; simp only [c6])); first | done | cbv))⟩ ?_
      rintro ⟨v38, v39⟩ eK71 hsK71
      dsimp only [R58aL0] at hsK71
      refine AWp.seq ?_
      refine AWp.rg hT hA {} (by cbv) (lb rfl) ?_
      refine nT ?_
      refine AWp.seq ?_
      rcases tf (A.zlt v38 (A.len x2)) with c40 | c40
      · replace hsK71 := cT c40 hsK71
        refine AWp.cdT rfl (by first | rfl | simp only [c40, Bool.not_true, Bool.not_false, cond_true, cond_false]) ?_
        refine AWp.skip ?_
        refine nT ?_
        refine AWp.seq ?_
        refine AWp.block ?_
        refine AWp.seq ?_
        obtain ⟨⟨a41, a42, a43⟩, e44, hsK71⟩ := bindS hsK71
        obtain ⟨f45, f46⟩ := gtI e44
        refine AWp.rg hT hA { tk := [24] } (by (repeat (cbv; simp only [c40, f45, f46])); first | done | cbv) (lb rfl) ?_
        refine nT ?_
        obtain ⟨_, e47, hsK71⟩ := bindS hsK71
        have f49 := ckI e47
        obtain ⟨_, e48, hsK71⟩ := bindS hsK71
        have f50 := ckI e48
        obtain ⟨_, e51, hsK71⟩ := bindS hsK71
        have f53 := ckI e51
        obtain ⟨_, e52, hsK71⟩ := bindS hsK71
        have f54 := ckI e52
        obtain ⟨a55, e56, hsK71⟩ := bindS hsK71
        have f57 := gcI e56
        obtain ⟨_, e58, hsK71⟩ := bindS hsK71
        have f59 := nkI e58
        obtain ⟨_, e60, hsK71⟩ := bindS hsK71
        have f62 := ckI e60
        obtain ⟨_, e61, hsK71⟩ := bindS hsK71
        have f63 := ckI e61
        obtain ⟨_, e64, hsK71⟩ := bindS hsK71
        have f66 := ckI e64
        obtain ⟨_, e65, hsK71⟩ := bindS hsK71
        have f67 := ckI e65
        obtain ⟨d68, e69, hsK71⟩ := bindS hsK71
        refine AWp.rd hT hA { tk := [38] } rfl (by (repeat (cbv; simp only [c40, f49, f50, f53, f54, f57, f59, f62, f63, f66, f67, e69])); first | done | cbv) (by kernel_rfl) (lb rfl) ?_
        refine nB ?_
        refine nT ?_
        refine AWp.rg hT hA {} (by (repeat (cbv; simp only [c40])); first | done | cbv) (lb rfl) ?_
        exact nT ⟨_, (soI hsK71).symm, rfl, (by first | (cbv; done) | ((repeat (cbv; simp only [c40])); first | done | cbv))⟩
      · replace hsK71 := cF c40 hsK71
        refine AWp.cdF rfl (by first | rfl | simp only [c40, Bool.not_true, Bool.not_false, cond_true, cond_false]) ?_
        refine AWp.exit ?_
        refine xT ?_
        refine xT ?_
        refine exL hsK71 fun hx => ?_
        subst hx
        exact oxI ⟨rfl, _, hkK71, (by first | (cbv; done) | ((repeat (cbv; simp only [c40])); first | done | cbv))⟩
    · rintro _ ⟨v70, hkK71, rfl⟩
      have h := (hK71 _ hkK71)
      refine xB ?_
      refine nT ?_
      refine AWp.seq ?_
      refine AWp.seq ?_
      refine AWp.rg hT hA {} (by cbv) (lb rfl) ?_
      refine nT ?_
      refine AWp.block ?_
      obtain ⟨xK117, hxK117, K117, hK117, hkK117⟩ := bindK h
      refine AWp.cutX 2 [1, 4] [] 2 (lb rfl) (fun τ => ∃ v116, K117 v116 = some (.inl v220) ∧ τ = { env := [(1, (.lbox [(.d (.int .i64 x1)), (.d (.list 3 x2))])), (4, (.ptr 1 0))], heap := [(.arr 1 x3), (.arr 1 v116)], n := 111 }) ?_ ?_
      · skip
        refine AWp.iter hxK117 [1, 4, 45, 46] [] 2 (lb rfl) (fun (v93, v94) => { env := [(1, (.lbox [(.d (.int .i64 x1)), (.d (.list 3 x2))])), (4, (.ptr 1 0)), (45, (.d (.int .i64 x1))), (46, (.d (.int .i64 v93)))], heap := [(.arr 1 x3), (.arr 1 v94)], n := 111 }) ⟨rfl, (by cbv)⟩ ?_
        rintro ⟨v93, v94⟩ eK117 hsK117
        dsimp only [R58aL2] at hsK117
        refine AWp.seq ?_
        refine AWp.rg hT hA {} (by cbv) (lb rfl) ?_
        refine nT ?_
        refine AWp.seq ?_
        rcases tf (A.zlt v93 x1) with c95 | c95
        · replace hsK117 := cT c95 hsK117
          refine AWp.cdT rfl (by first | rfl | simp only [c95, Bool.not_true, Bool.not_false, cond_true, cond_false]) ?_
          refine AWp.skip ?_
          refine nT ?_
          refine AWp.seq ?_
          refine AWp.block ?_
          refine AWp.seq ?_
          refine AWp.rg hT hA {} (by (repeat (cbv; simp only [c95])); first | done | cbv) (lb rfl) ?_
          refine nT ?_
          refine AWp.seq ?_
          obtain ⟨_, e96, hsK117⟩ := bindS hsK117
          have f97 := nkI e96
          refine AWp.rg hT hA { tk := [50] } (by (repeat (cbv; simp only [c95, f97])); first | done | cbv) (lb rfl) ?_
          refine nT ?_
          refine AWp.seq ?_
          refine AWp.seq ?_
          refine AWp.region ?_
          obtain ⟨r99, e98, hsK117⟩ := bindS hsK117
          refine AOps.cc hT hA { tk := [57] } (by (repeat (cbv; simp only [c95])); first | done | cbv) (lb rfl) (R68bw hA e98) rfl (.inl rfl) rfl rfl rfl (lb rfl) rfl rfl ?_
          refine AOps.cd hT hA { tk := [57] } (by (repeat (cbv; simp only [c95])); first | done | cbv) (lb rfl) ?_
          refine nT ?_
          refine AWp.block ?_
          obtain ⟨xK109, hxK109, K109, hK109, hkK109⟩ := bindK hsK117
          refine AWp.cutX 4 [1, 4, 7, 8, 45, 46] [] 2 (lb rfl) (fun τ => ∃ v108, K109 v108 = some eK117 ∧ τ = { env := [(1, (.lbox [(.d (.int .i64 x1)), (.d (.list 3 x2))])), (4, (.ptr 1 0)), (7, (.d (.int .i64 v93))), (8, (.d (.int .u8 v108))), (45, (.d (.int .i64 x1))), (46, (.d (.int .i64 v93)))], heap := [(.arr 1 x3), (.arr 1 v94)], n := 111 }) ?_ ?_
          · skip
            refine AWp.iter hxK109 [1, 4, 7, 8, 9, 45, 46] [] 2 (lb rfl) (fun (v103, v104) => { env := [(1, (.lbox [(.d (.int .i64 x1)), (.d (.list 3 x2))])), (4, (.ptr 1 0)), (7, (.d (.int .i64 v93))), (8, (.d (.int .u8 v103))), (9, (.d (.int .u8 v104))), (45, (.d (.int .i64 x1))), (46, (.d (.int .i64 v93)))], heap := [(.arr 1 x3), (.arr 1 v94)], n := 111 }) ⟨rfl, (by first | (cbv; done) | ((repeat (cbv; simp only [c95])); first | done | cbv))⟩ ?_
            rintro ⟨v103, v104⟩ eK109 hsK109
            dsimp only [R58aL1] at hsK109
            refine AWp.seq ?_
            refine AWp.seq ?_
            refine AWp.rg hT hA {} (by cbv) (lb rfl) ?_
            refine nT ?_
            rcases tf (A.zeq v104 v103) with c105 | c105
            · replace hsK109 := cT c105 hsK109
              refine AWp.cdF rfl (by first | rfl | simp only [c105, Bool.not_true, Bool.not_false, cond_true, cond_false]) ?_
              refine AWp.exit ?_
              refine xT ?_
              refine xT ?_
              refine exL hsK109 fun hx => ?_
              subst hx
              exact oxI ⟨rfl, _, hkK109, (by first | (cbv; done) | ((repeat (cbv; simp only [c105])); first | done | cbv))⟩
            · replace hsK109 := cF c105 hsK109
              refine AWp.cdT rfl (by first | rfl | simp only [c105, Bool.not_true, Bool.not_false, cond_true, cond_false]) ?_
              refine AWp.skip ?_
              refine nT ?_
              refine AWp.seq ?_
              refine AWp.block ?_
              refine AWp.rg hT hA { tk := [9, 68] } (by (repeat (cbv; simp only [c105])); first | done | cbv) (lb rfl) ?_
              refine nB ?_
              refine nT ?_
              refine AWp.region ?_
              obtain ⟨r107, e106, hsK109⟩ := bindS hsK109
              refine AOps.cc hT hA { tk := [67] } (by (repeat (cbv; simp only [c105])); first | done | cbv) (lb rfl) (R68bw hA e106) rfl (.inl rfl) rfl rfl rfl (lb rfl) rfl rfl ?_
              refine AOps.cd hT hA { tk := [67] } (by (repeat (cbv; simp only [c105])); first | done | cbv) (lb rfl) ?_
              exact nT ⟨_, (soI hsK109).symm, rfl, (by first | (cbv; done) | ((repeat (cbv; simp only [c105])); first | done | cbv))⟩
          · rintro _ ⟨v108, hkK109, rfl⟩
            have hsK117 := (hK109 _ hkK109)
            refine xB ?_
            refine nT ?_
            obtain ⟨_, e110, hsK117⟩ := bindS hsK117
            have f112 := ckI e110
            obtain ⟨_, e111, hsK117⟩ := bindS hsK117
            have f113 := ckI e111
            obtain ⟨d114, e115, hsK117⟩ := bindS hsK117
            refine AWp.rg hT hA { tk := [8, 71] } (by (repeat (cbv; simp only [f112, f113, e115])); first | done | cbv) (lb rfl) ?_
            refine nB ?_
            refine nT ?_
            refine AWp.rg hT hA {} (by cbv) (lb rfl) ?_
            exact nT ⟨_, (soI hsK117).symm, rfl, (by cbv)⟩
        · replace hsK117 := cF c95 hsK117
          refine AWp.cdF rfl (by first | rfl | simp only [c95, Bool.not_true, Bool.not_false, cond_true, cond_false]) ?_
          refine AWp.exit ?_
          refine xT ?_
          refine xT ?_
          refine exL hsK117 fun hx => ?_
          subst hx
          exact oxI ⟨rfl, _, hkK117, (by first | (cbv; done) | ((repeat (cbv; simp only [c95])); first | done | cbv))⟩
      · rintro _ ⟨v116, hkK117, rfl⟩
        have h := (hK117 _ hkK117)
        refine xB ?_
        refine nT ?_
        refine AWp.seq ?_
        refine AWp.seq ?_
        refine AWp.rg hT hA {} (by cbv) (lb rfl) ?_
        refine nT ?_
        refine AWp.block ?_
        obtain ⟨xK219, hxK219, K219, hK219, hkK219⟩ := bindK h
        refine AWp.cutX 6 [4] [] 2 (lb rfl) (fun τ => ∃ v218, K219 v218 = some (.inl v220) ∧ τ = { env := [(4, (.ptr 1 0))], heap := [(.arr 1 x3), (.arr 1 v218)], n := 111 }) ?_ ?_
        · skip
          refine AWp.iter hxK219 [1, 4, 10] [] 2 (lb rfl) (fun (v167, v168) => { env := [(1, (.lbox [(.d (.int .i64 x1)), (.d (.list 3 x2))])), (4, (.ptr 1 0)), (10, (.d (.int .i64 v167)))], heap := [(.arr 1 x3), (.arr 1 v168)], n := 111 }) ⟨rfl, (by cbv)⟩ ?_
          rintro ⟨v167, v168⟩ eK219 hsK219
          dsimp only [R58aL4] at hsK219
          refine AWp.seq ?_
          refine AWp.seq ?_
          refine AWp.rg hT hA {} (by cbv) (lb rfl) ?_
          refine nT ?_
          rcases tf (A.zle v167 3) with c169 | c169
          · replace hsK219 := cT c169 hsK219
            refine AWp.cdT rfl (by first | rfl | simp only [c169, Bool.not_true, Bool.not_false, cond_true, cond_false]) ?_
            refine AWp.skip ?_
            refine nT ?_
            refine AWp.seq ?_
            refine AWp.block ?_
            refine AWp.seq ?_
            refine AWp.rg hT hA {} (by (repeat (cbv; simp only [c169])); first | done | cbv) (lb rfl) ?_
            refine nT ?_
            refine AWp.block ?_
            obtain ⟨xK217, hxK217, K217, hK217, hkK217⟩ := bindK hsK219
            refine AWp.cutX 8 [1, 4, 10] [] 2 (lb rfl) (fun τ => ∃ v216, K217 v216 = some eK219 ∧ τ = { env := [(1, (.lbox [(.d (.int .i64 x1)), (.d (.list 3 x2))])), (4, (.ptr 1 0)), (10, (.d (.int .i64 v167)))], heap := [(.arr 1 x3), (.arr 1 v216)], n := 111 }) ?_ ?_
            · skip
              refine AWp.iter hxK217 [1, 4, 10, 82, 83] [] 2 (lb rfl) (fun (v192, v193) => { env := [(1, (.lbox [(.d (.int .i64 x1)), (.d (.list 3 x2))])), (4, (.ptr 1 0)), (10, (.d (.int .i64 v167))), (82, (.d (.int .i64 x1))), (83, (.d (.int .i64 v192)))], heap := [(.arr 1 x3), (.arr 1 v193)], n := 111 }) ⟨rfl, (by first | (cbv; done) | ((repeat (cbv; simp only [c169])); first | done | cbv))⟩ ?_
              rintro ⟨v192, v193⟩ eK217 hsK217
              dsimp only [R58aL3] at hsK217
              refine AWp.seq ?_
              refine AWp.rg hT hA {} (by cbv) (lb rfl) ?_
              refine nT ?_
              refine AWp.seq ?_
              rcases tf (A.zlt v192 x1) with c194 | c194
              · replace hsK217 := cT c194 hsK217
                refine AWp.cdT rfl (by first | rfl | simp only [c194, Bool.not_true, Bool.not_false, cond_true, cond_false]) ?_
                refine AWp.skip ?_
                refine nT ?_
                refine AWp.seq ?_
                refine AWp.block ?_
                refine AWp.seq ?_
                refine AWp.rg hT hA {} (by (repeat (cbv; simp only [c194])); first | done | cbv) (lb rfl) ?_
                refine nT ?_
                refine AWp.regionDraw rfl (lb rfl) ?_
                obtain ⟨_, e195, hsK217⟩ := bindS hsK217
                have f197 := ckI e195
                obtain ⟨_, e196, hsK217⟩ := bindS hsK217
                have f198 := ckI e196
                obtain ⟨a199, e200, hsK217⟩ := bindS hsK217
                have f201 := gcI e200
                obtain ⟨r203, e202, hsK217⟩ := bindS hsK217
                refine DOps.cp hT hA { tk := [104] } rfl (by (repeat (cbv; simp only [c194, f197, f198, f201])); first | done | cbv) (R68bw hA e202) rfl rfl rfl rfl (lb rfl) rfl rfl ?_
                obtain ⟨r205, e204, hsK217⟩ := bindS hsK217
                refine DOps.cp hT hA { tk := [104] } rfl (by (repeat (cbv; simp only [c194, f197, f198, f201])); first | done | cbv) (R68cw hA e204) rfl rfl rfl rfl (lb rfl) rfl rfl ?_
                obtain ⟨_, e206, hsK217⟩ := bindS hsK217
                have f208 := ckI e206
                obtain ⟨_, e207, hsK217⟩ := bindS hsK217
                have f209 := ckI e207
                obtain ⟨_, e210, hsK217⟩ := bindS hsK217
                have f212 := ckI e210
                obtain ⟨_, e211, hsK217⟩ := bindS hsK217
                have f213 := ckI e211
                obtain ⟨d214, e215, hsK217⟩ := bindS hsK217
                refine DOps.cd hT hA { tk := [104] } rfl (by (repeat (cbv; simp only [c194, f197, f198, f201, f208, f209, f212, f213, e215])); first | done | cbv) (by kernel_rfl) ?_
                refine nB ?_
                refine nT ?_
                refine AWp.rg hT hA {} (by (repeat (cbv; simp only [c194])); first | done | cbv) (lb rfl) ?_
                exact nT ⟨_, (soI hsK217).symm, rfl, (by first | (cbv; done) | ((repeat (cbv; simp only [c194])); first | done | cbv))⟩
              · replace hsK217 := cF c194 hsK217
                refine AWp.cdF rfl (by first | rfl | simp only [c194, Bool.not_true, Bool.not_false, cond_true, cond_false]) ?_
                refine AWp.exit ?_
                refine xT ?_
                refine xT ?_
                refine exL hsK217 fun hx => ?_
                subst hx
                exact oxI ⟨rfl, _, hkK217, (by first | (cbv; done) | ((repeat (cbv; simp only [c194])); first | done | cbv))⟩
            · rintro _ ⟨v216, hkK217, rfl⟩
              have hsK219 := (hK217 _ hkK217)
              refine xB ?_
              refine nB ?_
              refine nT ?_
              refine AWp.rg hT hA {} (by cbv) (lb rfl) ?_
              exact nT ⟨_, (soI hsK219).symm, rfl, (by cbv)⟩
          · replace hsK219 := cF c169 hsK219
            refine AWp.cdF rfl (by first | rfl | simp only [c169, Bool.not_true, Bool.not_false, cond_true, cond_false]) ?_
            refine AWp.exit ?_
            refine xT ?_
            refine xT ?_
            refine exL hsK219 fun hx => ?_
            subst hx
            exact oxI ⟨rfl, _, hkK219, (by first | (cbv; done) | ((repeat (cbv; simp only [c169])); first | done | cbv))⟩
        · rintro _ ⟨v218, hkK219, rfl⟩
          have h := (hK219 _ hkK219)
          refine xB ?_
          refine nT ?_
          refine AWp.seq ?_
          refine AWp.rg hT hA {} (by cbv) (lb rfl) ?_
          refine nT ?_
          refine AWp.ret ?_
          cases soI h
          exact ⟨rfl, rfl, rfl, lb rfl, _, rfl⟩
  · replace h := cF c6 h
    refine AWp.cdT rfl (by first | rfl | simp only [c6, Bool.not_true, Bool.not_false, cond_true, cond_false]) ?_
    refine AWp.seq ?_
    refine AWp.rg hT hA {} (by (repeat (cbv; simp only [c6])); first | done | cbv) (lb rfl) ?_
    refine nT ?_
    refine AWp.ret ?_
    refine rT ?_
    cases soI h

theorem R58awb {A : Ar} (hA : A = Ar.std) {x1 : Int} {x2 : List D} {x3 : List D} (h : R58a A x1 x2 x3 = some (.inr ())) : ACall Try.prog 58 [(.d (.agg [(.int .i64 x1), (.list 3 x2)]))] [(.arr 1 x3)] (.tuple [.nilptr, (.d (.int .i64 50))]) [(.arr 1 x3)] := by
  unfold R58a at h
  refine ACall.enter hT (fn := Try.f58) Try.func58 rfl (by decide) (by simp [Try.f58]) rfl rfl rfl rfl (lb rfl) ?_
  refine AWp.seq ?_
  refine AWp.rg hT hA {} (by cbv) (lb rfl) ?_
  refine nT ?_
  refine AWp.seq ?_
  refine AWp.seq ?_
  refine AWp.region ?_
  obtain ⟨r5, e4, h⟩ := bindS h
  refine AOps.cc hT hA {} (by cbv) (lb rfl) (R33w hA e4) rfl (.inr rfl) rfl rfl rfl (lb rfl) rfl rfl ?_
  refine AOps.cd hT hA {} (by cbv) (lb rfl) ?_
  refine nT ?_
  rcases tf r5 with c6 | c6
  · replace h := cT c6 h
    refine AWp.cdF rfl (by first | rfl | simp only [c6, Bool.not_true, Bool.not_false, cond_true, cond_false]) ?_
    refine AWp.skip ?_
    refine nT ?_
    refine AWp.seq ?_
    have f7 := lnF hA (l := [(.int .i64 x1), (.list 3 x2), (.int .u8 0), (.int .u8 0), (.int .u8 0), (.int .u8 0), (.int .u8 0), (.int .u8 0), (.int .u8 0), (.int .u8 0), (.int .u8 0), (.int .u8 0), (.int .u8 0), (.int .u8 0), (.int .u8 0), (.int .u8 0), (.int .u8 0), (.int .u8 0), (.int .u8 0), (.int .u8 0), (.int .u8 0), (.int .u8 0), (.int .u8 0), (.int .u8 0), (.int .u8 0), (.int .u8 0), (.int .u8 0), (.int .u8 0), (.int .u8 0), (.int .u8 0), (.int .u8 0), (.int .u8 0), (.int .u8 0), (.int .u8 0), (.int .u8 0), (.int .u8 0), (.int .u8 0), (.int .u8 0), (.int .u8 0), (.int .u8 0), (.int .u8 0), (.int .u8 0), (.int .u8 0), (.int .u8 0), (.int .u8 0), (.int .u8 0), (.int .u8 0), (.int .u8 0), (.int .u8 0), (.int .u8 0)]) (n := 50) rfl
    refine AWp.rg hT hA { arr := [17] } (by (repeat (cbv; simp only [c6, f7])); first | done | cbv) (lb rfl) ?_
    refine nT ?_
    refine AWp.seq ?_
    refine AWp.seq ?_
    refine AWp.rg hT hA {} (by (repeat (cbv; simp only [c6])); first | done | cbv) (lb rfl) ?_
    refine nT ?_
    refine AWp.block ?_
    obtain ⟨xK71, hxK71, K71, hK71, hkK71⟩ := bindK h
    refine AWp.cutX 0 [1, 4] [] 2 (lb rfl) (fun τ => ∃ v70, K71 v70 = some (.inr ()) ∧ τ = { env := [(1, (.lbox [(.d (.int .i64 x1)), (.d (.list 3 x2))])), (4, (.ptr 1 0))], heap := [(.arr 1 x3), (.arr 1 v70)], n := 111 }) ?_ ?_
    · skip
      refine AWp.iter hxK71 [1, 4, 19, 20, 21] [] 2 (lb rfl) (fun (v38, v39) => { env := [(1, (.lbox [(.d (.int .i64 x1)), (.d (.list 3 x2))])), (4, (.ptr 1 0)), (19, (.d (.list 3 x2))), (20, (.d (.int .i64 (A.len x2)))), (21, (.d (.int .i64 v38)))], heap := [(.arr 1 x3), (.arr 1 v39)], n := 111 }) ⟨rfl, (by first | (cbv; done) | ((repeat (cbv; simp only [c6])); first | done | cbv))⟩ ?_
      rintro ⟨v38, v39⟩ eK71 hsK71
      dsimp only [R58aL0] at hsK71
      refine AWp.seq ?_
      refine AWp.rg hT hA {} (by cbv) (lb rfl) ?_
      refine nT ?_
      refine AWp.seq ?_
      rcases tf (A.zlt v38 (A.len x2)) with c40 | c40
      · replace hsK71 := cT c40 hsK71
        refine AWp.cdT rfl (by first | rfl | simp only [c40, Bool.not_true, Bool.not_false, cond_true, cond_false]) ?_
        refine AWp.skip ?_
        refine nT ?_
        refine AWp.seq ?_
        refine AWp.block ?_
        refine AWp.seq ?_
        obtain ⟨⟨a41, a42, a43⟩, e44, hsK71⟩ := bindS hsK71
        obtain ⟨f45, f46⟩ := gtI e44
        refine AWp.rg hT hA { tk := [24] } (by (repeat (cbv; simp only [c40, f45, f46])); first | done | cbv) (lb rfl) ?_
        refine nT ?_
        obtain ⟨_, e47, hsK71⟩ := bindS hsK71
        have f49 := ckI e47
        obtain ⟨_, e48, hsK71⟩ := bindS hsK71
        have f50 := ckI e48
        obtain ⟨_, e51, hsK71⟩ := bindS hsK71
        have f53 := ckI e51
        obtain ⟨_, e52, hsK71⟩ := bindS hsK71
        have f54 := ckI e52
        obtain ⟨a55, e56, hsK71⟩ := bindS hsK71
        have f57 := gcI e56
        obtain ⟨_, e58, hsK71⟩ := bindS hsK71
        have f59 := nkI e58
        obtain ⟨_, e60, hsK71⟩ := bindS hsK71
        have f62 := ckI e60
        obtain ⟨_, e61, hsK71⟩ := bindS hsK71
        have f63 := ckI e61
        obtain ⟨_, e64, hsK71⟩ := bindS hsK71
        have f66 := ckI e64
        obtain ⟨_, e65, hsK71⟩ := bindS hsK71
        have f67 := ckI e65
        obtain ⟨d68, e69, hsK71⟩ := bindS hsK71
        refine AWp.rd hT hA { tk := [38] } rfl (by (repeat (cbv; simp only [c40, f49, f50, f53, f54, f57, f59, f62, f63, f66, f67, e69])); first | done | cbv) (by kernel_rfl) (lb rfl) ?_
        refine nB ?_
        refine nT ?_
        refine AWp.rg hT hA {} (by (repeat (cbv; simp only [c40])); first | done | cbv) (lb rfl) ?_
        exact nT ⟨_, (soI hsK71).symm, rfl, (by first | (cbv; done) | ((repeat (cbv; simp only [c40])); first | done | cbv))⟩
      · replace hsK71 := cF c40 hsK71
        refine AWp.cdF rfl (by first | rfl | simp only [c40, Bool.not_true, Bool.not_false, cond_true, cond_false]) ?_
        refine AWp.exit ?_
        refine xT ?_
        refine xT ?_
        refine exL hsK71 fun hx => ?_
        subst hx
        exact oxI ⟨rfl, _, hkK71, (by first | (cbv; done) | ((repeat (cbv; simp only [c40])); first | done | cbv))⟩
    · rintro _ ⟨v70, hkK71, rfl⟩
      have h := (hK71 _ hkK71)
      refine xB ?_
      refine nT ?_
      refine AWp.seq ?_
      refine AWp.seq ?_
      refine AWp.rg hT hA {} (by cbv) (lb rfl) ?_
      refine nT ?_
      refine AWp.block ?_
      obtain ⟨xK117, hxK117, K117, hK117, hkK117⟩ := bindK h
      refine AWp.cutX 2 [1, 4] [] 2 (lb rfl) (fun τ => ∃ v116, K117 v116 = some (.inr ()) ∧ τ = { env := [(1, (.lbox [(.d (.int .i64 x1)), (.d (.list 3 x2))])), (4, (.ptr 1 0))], heap := [(.arr 1 x3), (.arr 1 v116)], n := 111 }) ?_ ?_
      · skip
        refine AWp.iter hxK117 [1, 4, 45, 46] [] 2 (lb rfl) (fun (v93, v94) => { env := [(1, (.lbox [(.d (.int .i64 x1)), (.d (.list 3 x2))])), (4, (.ptr 1 0)), (45, (.d (.int .i64 x1))), (46, (.d (.int .i64 v93)))], heap := [(.arr 1 x3), (.arr 1 v94)], n := 111 }) ⟨rfl, (by cbv)⟩ ?_
        rintro ⟨v93, v94⟩ eK117 hsK117
        dsimp only [R58aL2] at hsK117
        refine AWp.seq ?_
        refine AWp.rg hT hA {} (by cbv) (lb rfl) ?_
        refine nT ?_
        refine AWp.seq ?_
        rcases tf (A.zlt v93 x1) with c95 | c95
        · replace hsK117 := cT c95 hsK117
          refine AWp.cdT rfl (by first | rfl | simp only [c95, Bool.not_true, Bool.not_false, cond_true, cond_false]) ?_
          refine AWp.skip ?_
          refine nT ?_
          refine AWp.seq ?_
          refine AWp.block ?_
          refine AWp.seq ?_
          refine AWp.rg hT hA {} (by (repeat (cbv; simp only [c95])); first | done | cbv) (lb rfl) ?_
          refine nT ?_
          refine AWp.seq ?_
          obtain ⟨_, e96, hsK117⟩ := bindS hsK117
          have f97 := nkI e96
          refine AWp.rg hT hA { tk := [50] } (by (repeat (cbv; simp only [c95, f97])); first | done | cbv) (lb rfl) ?_
          refine nT ?_
          refine AWp.seq ?_
          refine AWp.seq ?_
          refine AWp.region ?_
          obtain ⟨r99, e98, hsK117⟩ := bindS hsK117
          refine AOps.cc hT hA { tk := [57] } (by (repeat (cbv; simp only [c95])); first | done | cbv) (lb rfl) (R68bw hA e98) rfl (.inl rfl) rfl rfl rfl (lb rfl) rfl rfl ?_
          refine AOps.cd hT hA { tk := [57] } (by (repeat (cbv; simp only [c95])); first | done | cbv) (lb rfl) ?_
          refine nT ?_
          refine AWp.block ?_
          obtain ⟨xK109, hxK109, K109, hK109, hkK109⟩ := bindK hsK117
          refine AWp.cutX 4 [1, 4, 7, 8, 45, 46] [] 2 (lb rfl) (fun τ => ∃ v108, K109 v108 = some eK117 ∧ τ = { env := [(1, (.lbox [(.d (.int .i64 x1)), (.d (.list 3 x2))])), (4, (.ptr 1 0)), (7, (.d (.int .i64 v93))), (8, (.d (.int .u8 v108))), (45, (.d (.int .i64 x1))), (46, (.d (.int .i64 v93)))], heap := [(.arr 1 x3), (.arr 1 v94)], n := 111 }) ?_ ?_
          · skip
            refine AWp.iter hxK109 [1, 4, 7, 8, 9, 45, 46] [] 2 (lb rfl) (fun (v103, v104) => { env := [(1, (.lbox [(.d (.int .i64 x1)), (.d (.list 3 x2))])), (4, (.ptr 1 0)), (7, (.d (.int .i64 v93))), (8, (.d (.int .u8 v103))), (9, (.d (.int .u8 v104))), (45, (.d (.int .i64 x1))), (46, (.d (.int .i64 v93)))], heap := [(.arr 1 x3), (.arr 1 v94)], n := 111 }) ⟨rfl, (by first | (cbv; done) | ((repeat (cbv; simp only [c95])); first | done | cbv))⟩ ?_
            rintro ⟨v103, v104⟩ eK109 hsK109
            dsimp only [R58aL1] at hsK109
            refine AWp.seq ?_
            refine AWp.seq ?_
            refine AWp.rg hT hA {} (by cbv) (lb rfl) ?_
            refine nT ?_
            rcases tf (A.zeq v104 v103) with c105 | c105
            · replace hsK109 := cT c105 hsK109
              refine AWp.cdF rfl (by first | rfl | simp only [c105, Bool.not_true, Bool.not_false, cond_true, cond_false]) ?_
              refine AWp.exit ?_
              refine xT ?_
              refine xT ?_
              refine exL hsK109 fun hx => ?_
              subst hx
              exact oxI ⟨rfl, _, hkK109, (by first | (cbv; done) | ((repeat (cbv; simp only [c105])); first | done | cbv))⟩
            · replace hsK109 := cF c105 hsK109
              refine AWp.cdT rfl (by first | rfl | simp only [c105, Bool.not_true, Bool.not_false, cond_true, cond_false]) ?_
              refine AWp.skip ?_
              refine nT ?_
              refine AWp.seq ?_
              refine AWp.block ?_
              refine AWp.rg hT hA { tk := [9, 68] } (by (repeat (cbv; simp only [c105])); first | done | cbv) (lb rfl) ?_
              refine nB ?_
              refine nT ?_
              refine AWp.region ?_
              obtain ⟨r107, e106, hsK109⟩ := bindS hsK109
              refine AOps.cc hT hA { tk := [67] } (by (repeat (cbv; simp only [c105])); first | done | cbv) (lb rfl) (R68bw hA e106) rfl (.inl rfl) rfl rfl rfl (lb rfl) rfl rfl ?_
              refine AOps.cd hT hA { tk := [67] } (by (repeat (cbv; simp only [c105])); first | done | cbv) (lb rfl) ?_
              exact nT ⟨_, (soI hsK109).symm, rfl, (by first | (cbv; done) | ((repeat (cbv; simp only [c105])); first | done | cbv))⟩
          · rintro _ ⟨v108, hkK109, rfl⟩
            have hsK117 := (hK109 _ hkK109)
            refine xB ?_
            refine nT ?_
            obtain ⟨_, e110, hsK117⟩ := bindS hsK117
            have f112 := ckI e110
            obtain ⟨_, e111, hsK117⟩ := bindS hsK117
            have f113 := ckI e111
            obtain ⟨d114, e115, hsK117⟩ := bindS hsK117
            refine AWp.rg hT hA { tk := [8, 71] } (by (repeat (cbv; simp only [f112, f113, e115])); first | done | cbv) (lb rfl) ?_
            refine nB ?_
            refine nT ?_
            refine AWp.rg hT hA {} (by cbv) (lb rfl) ?_
            exact nT ⟨_, (soI hsK117).symm, rfl, (by cbv)⟩
        · replace hsK117 := cF c95 hsK117
          refine AWp.cdF rfl (by first | rfl | simp only [c95, Bool.not_true, Bool.not_false, cond_true, cond_false]) ?_
          refine AWp.exit ?_
          refine xT ?_
          refine xT ?_
          refine exL hsK117 fun hx => ?_
          subst hx
          exact oxI ⟨rfl, _, hkK117, (by first | (cbv; done) | ((repeat (cbv; simp only [c95])); first | done | cbv))⟩
      · rintro _ ⟨v116, hkK117, rfl⟩
        have h := (hK117 _ hkK117)
        refine xB ?_
        refine nT ?_
        refine AWp.seq ?_
        refine AWp.seq ?_
        refine AWp.rg hT hA {} (by cbv) (lb rfl) ?_
        refine nT ?_
        refine AWp.block ?_
        obtain ⟨xK219, hxK219, K219, hK219, hkK219⟩ := bindK h
        refine AWp.cutX 6 [4] [] 2 (lb rfl) (fun τ => ∃ v218, K219 v218 = some (.inr ()) ∧ τ = { env := [(4, (.ptr 1 0))], heap := [(.arr 1 x3), (.arr 1 v218)], n := 111 }) ?_ ?_
        · skip
          refine AWp.iter hxK219 [1, 4, 10] [] 2 (lb rfl) (fun (v167, v168) => { env := [(1, (.lbox [(.d (.int .i64 x1)), (.d (.list 3 x2))])), (4, (.ptr 1 0)), (10, (.d (.int .i64 v167)))], heap := [(.arr 1 x3), (.arr 1 v168)], n := 111 }) ⟨rfl, (by cbv)⟩ ?_
          rintro ⟨v167, v168⟩ eK219 hsK219
          dsimp only [R58aL4] at hsK219
          refine AWp.seq ?_
          refine AWp.seq ?_
          refine AWp.rg hT hA {} (by cbv) (lb rfl) ?_
          refine nT ?_
          rcases tf (A.zle v167 3) with c169 | c169
          · replace hsK219 := cT c169 hsK219
            refine AWp.cdT rfl (by first | rfl | simp only [c169, Bool.not_true, Bool.not_false, cond_true, cond_false]) ?_
            refine AWp.skip ?_
            refine nT ?_
            refine AWp.seq ?_
            refine AWp.block ?_
            refine AWp.seq ?_
            refine AWp.rg hT hA {} (by (repeat (cbv; simp only [c169])); first | done | cbv) (lb rfl) ?_
            refine nT ?_
            refine AWp.block ?_
            obtain ⟨xK217, hxK217, K217, hK217, hkK217⟩ := bindK hsK219
            refine AWp.cutX 8 [1, 4, 10] [] 2 (lb rfl) (fun τ => ∃ v216, K217 v216 = some eK219 ∧ τ = { env := [(1, (.lbox [(.d (.int .i64 x1)), (.d (.list 3 x2))])), (4, (.ptr 1 0)), (10, (.d (.int .i64 v167)))], heap := [(.arr 1 x3), (.arr 1 v216)], n := 111 }) ?_ ?_
            · skip
              refine AWp.iter hxK217 [1, 4, 10, 82, 83] [] 2 (lb rfl) (fun (v192, v193) => { env := [(1, (.lbox [(.d (.int .i64 x1)), (.d (.list 3 x2))])), (4, (.ptr 1 0)), (10, (.d (.int .i64 v167))), (82, (.d (.int .i64 x1))), (83, (.d (.int .i64 v192)))], heap := [(.arr 1 x3), (.arr 1 v193)], n := 111 }) ⟨rfl, (by first | (cbv; done) | ((repeat (cbv; simp only [c169])); first | done | cbv))⟩ ?_
              rintro ⟨v192, v193⟩ eK217 hsK217
              dsimp only [R58aL3] at hsK217
              refine AWp.seq ?_
              refine AWp.rg hT hA {} (by cbv) (lb rfl) ?_
              refine nT ?_
              refine AWp.seq ?_
              rcases tf (A.zlt v192 x1) with c194 | c194
              · replace hsK217 := cT c194 hsK217
                refine AWp.cdT rfl (by first | rfl | simp only [c194, Bool.not_true, Bool.not_false, cond_true, cond_false]) ?_
                refine AWp.skip ?_
                refine nT ?_
                refine AWp.seq ?_
                refine AWp.block ?_
                refine AWp.seq ?_
                refine AWp.rg hT hA {} (by (repeat (cbv; simp only [c194])); first | done | cbv) (lb rfl) ?_
                refine nT ?_
                refine AWp.regionDraw rfl (lb rfl) ?_
                obtain ⟨_, e195, hsK217⟩ := bindS hsK217
                have f197 := ckI e195
                obtain ⟨_, e196, hsK217⟩ := bindS hsK217
                have f198 := ckI e196
                obtain ⟨a199, e200, hsK217⟩ := bindS hsK217
                have f201 := gcI e200
                obtain ⟨r203, e202, hsK217⟩ := bindS hsK217
                refine DOps.cp hT hA { tk := [104] } rfl (by (repeat (cbv; simp only [c194, f197, f198, f201])); first | done | cbv) (R68bw hA e202) rfl rfl rfl rfl (lb rfl) rfl rfl ?_
                obtain ⟨r205, e204, hsK217⟩ := bindS hsK217
                refine DOps.cp hT hA { tk := [104] } rfl (by (repeat (cbv; simp only [c194, f197, f198, f201])); first | done | cbv) (R68cw hA e204) rfl rfl rfl rfl (lb rfl) rfl rfl ?_
                obtain ⟨_, e206, hsK217⟩ := bindS hsK217
                have f208 := ckI e206
                obtain ⟨_, e207, hsK217⟩ := bindS hsK217
                have f209 := ckI e207
                obtain ⟨_, e210, hsK217⟩ := bindS hsK217
                have f212 := ckI e210
                obtain ⟨_, e211, hsK217⟩ := bindS hsK217
                have f213 := ckI e211
                obtain ⟨d214, e215, hsK217⟩ := bindS hsK217
                refine DOps.cd hT hA { tk := [104] } rfl (by (repeat (cbv; simp only [c194, f197, f198, f201, f208, f209, f212, f213, e215])); first | done | cbv) (by kernel_rfl) ?_
                refine nB ?_
                refine nT ?_
                refine AWp.rg hT hA {} (by (repeat (cbv; simp only [c194])); first | done | cbv) (lb rfl) ?_
                exact nT ⟨_, (soI hsK217).symm, rfl, (by first | (cbv; done) | ((repeat (cbv; simp only [c194])); first | done | cbv))⟩
              · replace hsK217 := cF c194 hsK217
                refine AWp.cdF rfl (by first | rfl | simp only [c194, Bool.not_true, Bool.not_false, cond_true, cond_false]) ?_
                refine AWp.exit ?_
                refine xT ?_
                refine xT ?_
                refine exL hsK217 fun hx => ?_
                subst hx
                exact oxI ⟨rfl, _, hkK217, (by first | (cbv; done) | ((repeat (cbv; simp only [c194])); first | done | cbv))⟩
            · rintro _ ⟨v216, hkK217, rfl⟩
              have hsK219 := (hK217 _ hkK217)
              refine xB ?_
              refine nB ?_
              refine nT ?_
              refine AWp.rg hT hA {} (by cbv) (lb rfl) ?_
              exact nT ⟨_, (soI hsK219).symm, rfl, (by cbv)⟩
          · replace hsK219 := cF c169 hsK219
            refine AWp.cdF rfl (by first | rfl | simp only [c169, Bool.not_true, Bool.not_false, cond_true, cond_false]) ?_
            refine AWp.exit ?_
            refine xT ?_
            refine xT ?_
            refine exL hsK219 fun hx => ?_
            subst hx
            exact oxI ⟨rfl, _, hkK219, (by first | (cbv; done) | ((repeat (cbv; simp only [c169])); first | done | cbv))⟩
        · rintro _ ⟨v218, hkK219, rfl⟩
          have h := (hK219 _ hkK219)
          refine xB ?_
          refine nT ?_
          refine AWp.seq ?_
          refine AWp.rg hT hA {} (by cbv) (lb rfl) ?_
          refine nT ?_
          refine AWp.ret ?_
          cases soI h
  · replace h := cF c6 h
    refine AWp.cdT rfl (by first | rfl | simp only [c6, Bool.not_true, Bool.not_false, cond_true, cond_false]) ?_
    refine AWp.seq ?_
    refine AWp.rg hT hA {} (by (repeat (cbv; simp only [c6])); first | done | cbv) (lb rfl) ?_
    refine nT ?_
    refine AWp.ret ?_
    refine rT ?_
    cases soI h
    exact ⟨rfl, rfl, rfl, lb rfl, _, rfl⟩

theorem R70wa {A : Ar} (hA : A = Ar.std) {x1 : Int} {x2 : List D} {x3 : Int} {x4 : List D} {v14 : List D} {v15 : List D} (h : R70 A x1 x2 x3 x4 = some (.inl (v14, v15))) : ACall Try.prog 70 [(.d (.agg [(.int .i64 x1), (.list 3 x2)])), (.d (.agg [(.int .i64 x3), (.list 3 x4)]))] [] (.tuple [(.ptr 0 0), (.ptr 1 0), (.d (.int .i64 0))]) [(.arr 1 v14), (.arr 1 v15)] := by
  unfold R70 at h
  refine ACall.enter hT (fn := Try.f70) Try.func70 rfl (by decide) (by simp [Try.f70]) rfl rfl rfl rfl (lb rfl) ?_
  refine AWp.seq ?_
  refine AWp.rg hT hA {} (by cbv) (lb rfl) ?_
  refine nT ?_
  refine AWp.seq ?_
  refine AWp.region ?_
  obtain ⟨q7, e5, h⟩ := bindS h
  rcases q7 with r6 | _
  · replace h := (eL h)
    refine AOps.cc hT hA {} (by cbv) (lb rfl) (R58wa hA e5) rfl (.inl rfl) rfl rfl rfl (lb rfl) rfl rfl ?_
    refine AOps.cd hT hA {} (by cbv) (lb rfl) ?_
    refine nT ?_
    refine AWp.seq ?_
    refine AWp.seq ?_
    have f8 := zeqF hA (a := 0) (b := 0) (c := true) rfl
    refine AWp.rg hT hA {} (by (repeat (cbv; simp only [f8])); first | done | cbv) (lb rfl) ?_
    refine nT ?_
    refine AWp.cdF rfl (by first | rfl | simp only [f8, Bool.not_true, Bool.not_false, cond_true, cond_false]) ?_
    refine AWp.skip ?_
    refine nT ?_
    refine AWp.seq ?_
    refine AWp.region ?_
    obtain ⟨q11, e9, h⟩ := bindS h
    rcases q11 with r10 | _
    · replace h := (eL h)
      refine AOps.cc hT hA {} (by (repeat (cbv; simp only [f8])); first | done | cbv) (lb rfl) (R58awa hA e9) rfl (.inl rfl) rfl rfl rfl (lb rfl) rfl rfl ?_
      refine AOps.cd hT hA {} (by (repeat (cbv; simp only [f8])); first | done | cbv) (lb rfl) ?_
      refine nT ?_
      refine AWp.seq ?_
      refine AWp.rg hT hA {} (by (repeat (cbv; simp only [f8])); first | done | cbv) (lb rfl) ?_
      refine nT ?_
      refine AWp.ret ?_
      cases soI h
      exact ⟨rfl, rfl, rfl, lb rfl, _, rfl⟩
    · replace h := (eR h)
      refine AOps.cc hT hA {} (by (repeat (cbv; simp only [f8])); first | done | cbv) (lb rfl) (R58awb hA e9) rfl (.inl rfl) rfl rfl rfl (lb rfl) rfl rfl ?_
      refine AOps.cd hT hA {} (by (repeat (cbv; simp only [f8])); first | done | cbv) (lb rfl) ?_
      refine nT ?_
      refine AWp.seq ?_
      refine AWp.rg hT hA {} (by (repeat (cbv; simp only [f8])); first | done | cbv) (lb rfl) ?_
      refine nT ?_
      refine AWp.ret ?_
      cases soI h
  · replace h := (eR h)
    refine AOps.cc hT hA {} (by cbv) (lb rfl) (R58wb hA e5) rfl (.inl rfl) rfl rfl rfl (lb rfl) rfl rfl ?_
    refine AOps.cd hT hA {} (by cbv) (lb rfl) ?_
    refine nT ?_
    refine AWp.seq ?_
    refine AWp.seq ?_
    have f13 := zeqF hA (a := 50) (b := 0) (c := false) rfl
    refine AWp.rg hT hA {} (by (repeat (cbv; simp only [f13])); first | done | cbv) (lb rfl) ?_
    refine nT ?_
    refine AWp.cdT rfl (by first | rfl | simp only [f13, Bool.not_true, Bool.not_false, cond_true, cond_false]) ?_
    refine AWp.seq ?_
    refine AWp.rg hT hA {} (by (repeat (cbv; simp only [f13])); first | done | cbv) (lb rfl) ?_
    refine nT ?_
    refine AWp.ret ?_
    refine rT ?_
    cases soI h

theorem R70wb {A : Ar} (hA : A = Ar.std) {x1 : Int} {x2 : List D} {x3 : Int} {x4 : List D} {v16 : List D} (h : R70 A x1 x2 x3 x4 = some (.inr (.inl v16))) : ACall Try.prog 70 [(.d (.agg [(.int .i64 x1), (.list 3 x2)])), (.d (.agg [(.int .i64 x3), (.list 3 x4)]))] [] (.tuple [(.ptr 0 0), .nilptr, (.d (.int .i64 50))]) [(.arr 1 v16)] := by
  unfold R70 at h
  refine ACall.enter hT (fn := Try.f70) Try.func70 rfl (by decide) (by simp [Try.f70]) rfl rfl rfl rfl (lb rfl) ?_
  refine AWp.seq ?_
  refine AWp.rg hT hA {} (by cbv) (lb rfl) ?_
  refine nT ?_
  refine AWp.seq ?_
  refine AWp.region ?_
  obtain ⟨q7, e5, h⟩ := bindS h
  rcases q7 with r6 | _
  · replace h := (eL h)
    refine AOps.cc hT hA {} (by cbv) (lb rfl) (R58wa hA e5) rfl (.inl rfl) rfl rfl rfl (lb rfl) rfl rfl ?_
    refine AOps.cd hT hA {} (by cbv) (lb rfl) ?_
    refine nT ?_
    refine AWp.seq ?_
    refine AWp.seq ?_
    have f8 := zeqF hA (a := 0) (b := 0) (c := true) rfl
    refine AWp.rg hT hA {} (by (repeat (cbv; simp only [f8])); first | done | cbv) (lb rfl) ?_
    refine nT ?_
    refine AWp.cdF rfl (by first | rfl | simp only [f8, Bool.not_true, Bool.not_false, cond_true, cond_false]) ?_
    refine AWp.skip ?_
    refine nT ?_
    refine AWp.seq ?_
    refine AWp.region ?_
    obtain ⟨q11, e9, h⟩ := bindS h
    rcases q11 with r10 | _
    · replace h := (eL h)
      refine AOps.cc hT hA {} (by (repeat (cbv; simp only [f8])); first | done | cbv) (lb rfl) (R58awa hA e9) rfl (.inl rfl) rfl rfl rfl (lb rfl) rfl rfl ?_
      refine AOps.cd hT hA {} (by (repeat (cbv; simp only [f8])); first | done | cbv) (lb rfl) ?_
      refine nT ?_
      refine AWp.seq ?_
      refine AWp.rg hT hA {} (by (repeat (cbv; simp only [f8])); first | done | cbv) (lb rfl) ?_
      refine nT ?_
      refine AWp.ret ?_
      cases soI h
    · replace h := (eR h)
      refine AOps.cc hT hA {} (by (repeat (cbv; simp only [f8])); first | done | cbv) (lb rfl) (R58awb hA e9) rfl (.inl rfl) rfl rfl rfl (lb rfl) rfl rfl ?_
      refine AOps.cd hT hA {} (by (repeat (cbv; simp only [f8])); first | done | cbv) (lb rfl) ?_
      refine nT ?_
      refine AWp.seq ?_
      refine AWp.rg hT hA {} (by (repeat (cbv; simp only [f8])); first | done | cbv) (lb rfl) ?_
      refine nT ?_
      refine AWp.ret ?_
      cases soI h
      exact ⟨rfl, rfl, rfl, lb rfl, _, rfl⟩
  · replace h := (eR h)
    refine AOps.cc hT hA {} (by cbv) (lb rfl) (R58wb hA e5) rfl (.inl rfl) rfl rfl rfl (lb rfl) rfl rfl ?_
    refine AOps.cd hT hA {} (by cbv) (lb rfl) ?_
    refine nT ?_
    refine AWp.seq ?_
    refine AWp.seq ?_
    have f13 := zeqF hA (a := 50) (b := 0) (c := false) rfl
    refine AWp.rg hT hA {} (by (repeat (cbv; simp only [f13])); first | done | cbv) (lb rfl) ?_
    refine nT ?_
    refine AWp.cdT rfl (by first | rfl | simp only [f13, Bool.not_true, Bool.not_false, cond_true, cond_false]) ?_
    refine AWp.seq ?_
    refine AWp.rg hT hA {} (by (repeat (cbv; simp only [f13])); first | done | cbv) (lb rfl) ?_
    refine nT ?_
    refine AWp.ret ?_
    refine rT ?_
    cases soI h

theorem R70wc {A : Ar} (hA : A = Ar.std) {x1 : Int} {x2 : List D} {x3 : Int} {x4 : List D} (h : R70 A x1 x2 x3 x4 = some (.inr (.inr ()))) : ACall Try.prog 70 [(.d (.agg [(.int .i64 x1), (.list 3 x2)])), (.d (.agg [(.int .i64 x3), (.list 3 x4)]))] [] (.tuple [.nilptr, .nilptr, (.d (.int .i64 50))]) [] := by
  unfold R70 at h
  refine ACall.enter hT (fn := Try.f70) Try.func70 rfl (by decide) (by simp [Try.f70]) rfl rfl rfl rfl (lb rfl) ?_
  refine AWp.seq ?_
  refine AWp.rg hT hA {} (by cbv) (lb rfl) ?_
  refine nT ?_
  refine AWp.seq ?_
  refine AWp.region ?_
  obtain ⟨q7, e5, h⟩ := bindS h
  rcases q7 with r6 | _
  · replace h := (eL h)
    refine AOps.cc hT hA {} (by cbv) (lb rfl) (R58wa hA e5) rfl (.inl rfl) rfl rfl rfl (lb rfl) rfl rfl ?_
    refine AOps.cd hT hA {} (by cbv) (lb rfl) ?_
    refine nT ?_
    refine AWp.seq ?_
    refine AWp.seq ?_
    have f8 := zeqF hA (a := 0) (b := 0) (c := true) rfl
    refine AWp.rg hT hA {} (by (repeat (cbv; simp only [f8])); first | done | cbv) (lb rfl) ?_
    refine nT ?_
    refine AWp.cdF rfl (by first | rfl | simp only [f8, Bool.not_true, Bool.not_false, cond_true, cond_false]) ?_
    refine AWp.skip ?_
    refine nT ?_
    refine AWp.seq ?_
    refine AWp.region ?_
    obtain ⟨q11, e9, h⟩ := bindS h
    rcases q11 with r10 | _
    · replace h := (eL h)
      refine AOps.cc hT hA {} (by (repeat (cbv; simp only [f8])); first | done | cbv) (lb rfl) (R58awa hA e9) rfl (.inl rfl) rfl rfl rfl (lb rfl) rfl rfl ?_
      refine AOps.cd hT hA {} (by (repeat (cbv; simp only [f8])); first | done | cbv) (lb rfl) ?_
      refine nT ?_
      refine AWp.seq ?_
      refine AWp.rg hT hA {} (by (repeat (cbv; simp only [f8])); first | done | cbv) (lb rfl) ?_
      refine nT ?_
      refine AWp.ret ?_
      cases soI h
    · replace h := (eR h)
      refine AOps.cc hT hA {} (by (repeat (cbv; simp only [f8])); first | done | cbv) (lb rfl) (R58awb hA e9) rfl (.inl rfl) rfl rfl rfl (lb rfl) rfl rfl ?_
      refine AOps.cd hT hA {} (by (repeat (cbv; simp only [f8])); first | done | cbv) (lb rfl) ?_
      refine nT ?_
      refine AWp.seq ?_
      refine AWp.rg hT hA {} (by (repeat (cbv; simp only [f8])); first | done | cbv) (lb rfl) ?_
      refine nT ?_
      refine AWp.ret ?_
      cases soI h
  · replace h := (eR h)
    refine AOps.cc hT hA {} (by cbv) (lb rfl) (R58wb hA e5) rfl (.inl rfl) rfl rfl rfl (lb rfl) rfl rfl ?_
    refine AOps.cd hT hA {} (by cbv) (lb rfl) ?_
    refine nT ?_
    refine AWp.seq ?_
    refine AWp.seq ?_
    have f13 := zeqF hA (a := 50) (b := 0) (c := false) rfl
    refine AWp.rg hT hA {} (by (repeat (cbv; simp only [f13])); first | done | cbv) (lb rfl) ?_
    refine nT ?_
    refine AWp.cdT rfl (by first | rfl | simp only [f13, Bool.not_true, Bool.not_false, cond_true, cond_false]) ?_
    refine AWp.seq ?_
    refine AWp.rg hT hA {} (by (repeat (cbv; simp only [f13])); first | done | cbv) (lb rfl) ?_
    refine nT ?_
    refine AWp.ret ?_
    refine rT ?_
    cases soI h
    exact ⟨rfl, rfl, rfl, lb rfl, _, rfl⟩

theorem R62w {A : Ar} (hA : A = Ar.std) {x1 : List D} {x2 : List D} {v24 : Int} (h : R62 A x1 x2 = some v24) : ACall Try.prog 62 [(.ptr 0 0), (.d (.list 1 x1))] [(.arr 1 x2)] (.d (.int .u8 v24)) [(.arr 1 x2)] := by
  unfold R62 at h
  refine ACall.enter hT (fn := Try.f62) Try.func62 rfl (by decide) (by simp [Try.f62]) rfl rfl rfl rfl (lb rfl) ?_
  refine AWp.seq ?_
  refine AWp.rg hT hA {} (by cbv) (lb rfl) ?_
  refine nT ?_
  refine AWp.seq ?_
  obtain ⟨a3, e4, h⟩ := bindS h
  have f5 := gcI e4
  refine AWp.rg hT hA { tk := [13] } (by (repeat (cbv; simp only [f5])); first | done | cbv) (lb rfl) ?_
  refine nT ?_
  refine AWp.seq ?_
  refine AWp.seq ?_
  refine AWp.rg hT hA {} (by cbv) (lb rfl) ?_
  refine nT ?_
  refine AWp.block ?_
  obtain ⟨xK23, hxK23, K23, hK23, hkK23⟩ := bindK h
  refine AWp.cutX 0 [5] [] 1 (lb rfl) (fun τ => ∃ v22, K23 v22 = some v24 ∧ τ = { env := [(5, (.d (.int .u8 v22)))], heap := [(.arr 1 x2)], n := 28 }) ?_ ?_
  · skip
    refine AWp.iter hxK23 [0, 5, 14, 15, 16] [] 1 (lb rfl) (fun (v13, v14) => { env := [(0, (.ptr 0 0)), (5, (.d (.int .u8 v13))), (14, (.d (.list 1 x1))), (15, (.d (.int .i64 (A.len x1)))), (16, (.d (.int .i64 v14)))], heap := [(.arr 1 x2)], n := 28 }) ⟨rfl, (by cbv)⟩ ?_
    rintro ⟨v13, v14⟩ eK23 hsK23
    dsimp only [R62L0] at hsK23
    refine AWp.seq ?_
    refine AWp.rg hT hA {} (by cbv) (lb rfl) ?_
    refine nT ?_
    refine AWp.seq ?_
    rcases tf (A.zlt v14 (A.len x1)) with c15 | c15
    · replace hsK23 := cT c15 hsK23
      refine AWp.cdT rfl (by first | rfl | simp only [c15, Bool.not_true, Bool.not_false, cond_true, cond_false]) ?_
      refine AWp.skip ?_
      refine nT ?_
      refine AWp.seq ?_
      refine AWp.block ?_
      refine AWp.seq ?_
      obtain ⟨a16, e17, hsK23⟩ := bindS hsK23
      obtain ⟨f18, f19⟩ := gtI e17
      refine AWp.rg hT hA {} (by (repeat (cbv; simp only [c15, f18, f19])); first | done | cbv) (lb rfl) ?_
      refine nT ?_
      refine AWp.region ?_
      obtain ⟨r21, e20, hsK23⟩ := bindS hsK23
      refine AOps.cc hT hA { tk := [25] } (by (repeat (cbv; simp only [c15])); first | done | cbv) (lb rfl) (R68aw hA e20) rfl (.inl rfl) rfl rfl rfl (lb rfl) rfl rfl ?_
      refine AOps.cd hT hA { tk := [25] } (by (repeat (cbv; simp only [c15])); first | done | cbv) (lb rfl) ?_
      refine nB ?_
      refine nT ?_
      refine AWp.rg hT hA {} (by (repeat (cbv; simp only [c15])); first | done | cbv) (lb rfl) ?_
      exact nT ⟨_, (soI hsK23).symm, rfl, (by first | (cbv; done) | ((repeat (cbv; simp only [c15])); first | done | cbv))⟩
    · replace hsK23 := cF c15 hsK23
      refine AWp.cdF rfl (by first | rfl | simp only [c15, Bool.not_true, Bool.not_false, cond_true, cond_false]) ?_
      refine AWp.exit ?_
      refine xT ?_
      refine xT ?_
      refine exL hsK23 fun hx => ?_
      subst hx
      exact oxI ⟨rfl, _, hkK23, (by first | (cbv; done) | ((repeat (cbv; simp only [c15])); first | done | cbv))⟩
  · rintro _ ⟨v22, hkK23, rfl⟩
    have h := (hK23 _ hkK23)
    refine xB ?_
    refine nT ?_
    refine AWp.seq ?_
    refine AWp.rg hT hA { tk := [5, 27] } (by cbv) (lb rfl) ?_
    refine nT ?_
    refine AWp.ret ?_
    cases soI h
    exact ⟨rfl, rfl, rfl, lb rfl, _, rfl⟩

theorem R62aw {A : Ar} (hA : A = Ar.std) {x1 : List D} {x2 : List D} {x3 : List D} {v25 : Int} (h : R62a A x1 x2 x3 = some v25) : ACall Try.prog 62 [(.ptr 1 0), (.d (.list 1 x1))] [(.arr 1 x2), (.arr 1 x3)] (.d (.int .u8 v25)) [(.arr 1 x2), (.arr 1 x3)] := by
  unfold R62a at h
  refine ACall.enter hT (fn := Try.f62) Try.func62 rfl (by decide) (by simp [Try.f62]) rfl rfl rfl rfl (lb rfl) ?_
  refine AWp.seq ?_
  refine AWp.rg hT hA {} (by cbv) (lb rfl) ?_
  refine nT ?_
  refine AWp.seq ?_
  obtain ⟨a4, e5, h⟩ := bindS h
  have f6 := gcI e5
  refine AWp.rg hT hA { tk := [13] } (by (repeat (cbv; simp only [f6])); first | done | cbv) (lb rfl) ?_
  refine nT ?_
  refine AWp.seq ?_
  refine AWp.seq ?_
  refine AWp.rg hT hA {} (by cbv) (lb rfl) ?_
  refine nT ?_
  refine AWp.block ?_
  obtain ⟨xK24, hxK24, K24, hK24, hkK24⟩ := bindK h
  refine AWp.cutX 0 [5] [] 2 (lb rfl) (fun τ => ∃ v23, K24 v23 = some v25 ∧ τ = { env := [(5, (.d (.int .u8 v23)))], heap := [(.arr 1 x2), (.arr 1 x3)], n := 28 }) ?_ ?_
  · skip
    refine AWp.iter hxK24 [0, 5, 14, 15, 16] [] 2 (lb rfl) (fun (v14, v15) => { env := [(0, (.ptr 1 0)), (5, (.d (.int .u8 v14))), (14, (.d (.list 1 x1))), (15, (.d (.int .i64 (A.len x1)))), (16, (.d (.int .i64 v15)))], heap := [(.arr 1 x2), (.arr 1 x3)], n := 28 }) ⟨rfl, (by cbv)⟩ ?_
    rintro ⟨v14, v15⟩ eK24 hsK24
    dsimp only [R62aL0] at hsK24
    refine AWp.seq ?_
    refine AWp.rg hT hA {} (by cbv) (lb rfl) ?_
    refine nT ?_
    refine AWp.seq ?_
    rcases tf (A.zlt v15 (A.len x1)) with c16 | c16
    · replace hsK24 := cT c16 hsK24
      refine AWp.cdT rfl (by first | rfl | simp only [c16, Bool.not_true, Bool.not_false, cond_true, cond_false]) ?_
      refine AWp.skip ?_
      refine nT ?_
      refine AWp.seq ?_
      refine AWp.block ?_
      refine AWp.seq ?_
      obtain ⟨a17, e18, hsK24⟩ := bindS hsK24
      obtain ⟨f19, f20⟩ := gtI e18
      refine AWp.rg hT hA {} (by (repeat (cbv; simp only [c16, f19, f20])); first | done | cbv) (lb rfl) ?_
      refine nT ?_
      refine AWp.region ?_
      obtain ⟨r22, e21, hsK24⟩ := bindS hsK24
      refine AOps.cc hT hA { tk := [25] } (by (repeat (cbv; simp only [c16])); first | done | cbv) (lb rfl) (R68cw hA e21) rfl (.inl rfl) rfl rfl rfl (lb rfl) rfl rfl ?_
      refine AOps.cd hT hA { tk := [25] } (by (repeat (cbv; simp only [c16])); first | done | cbv) (lb rfl) ?_
      refine nB ?_
      refine nT ?_
      refine AWp.rg hT hA {} (by (repeat (cbv; simp only [c16])); first | done | cbv) (lb rfl) ?_
      exact nT ⟨_, (soI hsK24).symm, rfl, (by first | (cbv; done) | ((repeat (cbv; simp only [c16])); first | done | cbv))⟩
    · replace hsK24 := cF c16 hsK24
      refine AWp.cdF rfl (by first | rfl | simp only [c16, Bool.not_true, Bool.not_false, cond_true, cond_false]) ?_
      refine AWp.exit ?_
      refine xT ?_
      refine xT ?_
      refine exL hsK24 fun hx => ?_
      subst hx
      exact oxI ⟨rfl, _, hkK24, (by first | (cbv; done) | ((repeat (cbv; simp only [c16])); first | done | cbv))⟩
  · rintro _ ⟨v23, hkK24, rfl⟩
    have h := (hK24 _ hkK24)
    refine xB ?_
    refine nT ?_
    refine AWp.seq ?_
    refine AWp.rg hT hA { tk := [5, 27] } (by cbv) (lb rfl) ?_
    refine nT ?_
    refine AWp.ret ?_
    cases soI h
    exact ⟨rfl, rfl, rfl, lb rfl, _, rfl⟩

theorem R67w {A : Ar} (hA : A = Ar.std) {x1 : List D} {v12 : List D} (h : R67 A x1 = some v12) : ACall Try.prog 67 [(.d (.list 1 x1))] [] (.own 1 v12) [] := by
  unfold R67 at h
  refine ACall.enter hT (fn := Try.f67) Try.func67 rfl (by decide) (by simp [Try.f67]) rfl rfl rfl rfl (lb rfl) ?_
  refine AWp.seq ?_
  refine AWp.rg hT hA {} (by cbv) (lb rfl) ?_
  refine nT ?_
  refine AWp.seq ?_
  refine AWp.seq ?_
  rcases tf (A.zlt 0 (A.len x1)) with c2 | c2
  · replace h := cT c2 h
    refine AWp.rg hT hA {} (by (repeat (cbv; simp only [c2])); first | done | cbv) (lb rfl) ?_
    refine nT ?_
    refine AWp.cond (b := false) (by cbv; simp only [c2]) ?_
    rw [if_neg Bool.false_ne_true]
    refine AWp.skip ?_
    refine nT ?_
    refine AWp.seq ?_
    obtain ⟨l4, e5, h⟩ := bindS h
    obtain ⟨f6, f7⟩ := apI e5
    refine AWp.rg hT hA { tk := [7] } (by (repeat (cbv; simp only [c2, f6, f7])); first | done | cbv) (lb rfl) ?_
    refine nT ?_
    refine AWp.ret ?_
    cases soI h
    exact ⟨rfl, rfl, rfl, lb rfl, _, rfl⟩
  · replace h := cF c2 h
    refine AWp.rg hT hA {} (by (repeat (cbv; simp only [c2])); first | done | cbv) (lb rfl) ?_
    refine nT ?_
    obtain ⟨hc3a, hc3b⟩ := bothI h
    refine AWp.condAny (by cbv; simp only [c2]) ?_ ?_
    · replace h := hc3a
      refine AWp.seq ?_
      refine AWp.rg hT hA {} (by (repeat (cbv; simp only [c2])); first | done | cbv) (lb rfl) ?_
      refine nT ?_
      refine AWp.ret ?_
      refine rT ?_
      cases soI h
      exact ⟨rfl, rfl, rfl, lb rfl, _, rfl⟩
    · replace h := hc3b
      refine AWp.skip ?_
      refine nT ?_
      refine AWp.seq ?_
      obtain ⟨l8, e9, h⟩ := bindS h
      obtain ⟨f10, f11⟩ := apI e9
      refine AWp.rg hT hA { tk := [7] } (by (repeat (cbv; simp only [c2, f10, f11])); first | done | cbv) (lb rfl) ?_
      refine nT ?_
      refine AWp.ret ?_
      cases soI h
      exact ⟨rfl, rfl, rfl, lb rfl, _, rfl⟩

theorem R23w {A : Ar} (hA : A = Ar.std) {x1 : Int} {x2 : List D} {x3 : Int} {x4 : List D} {v237 : List D} {v238 : Int} (h : R23 A x1 x2 x3 x4 = some (v237, v238)) : ACall Try.prog 23 [(.d (.agg [(.int .i64 x1), (.list 3 x2)])), (.d (.agg [(.int .i64 x3), (.list 3 x4)]))] [] (.tuple [(.d (.list 1 v237)), (.d (.int .i64 v238))]) [] := by
  unfold R23 at h
  refine ACall.enter hT (fn := Try.f23) Try.func23 rfl (by decide) (by simp [Try.f23]) rfl rfl rfl rfl (lb rfl) ?_
  refine AWp.seq ?_
  refine AWp.rg hT hA {} (by cbv) (lb rfl) ?_
  refine nT ?_
  refine AWp.seq ?_
  refine AWp.region ?_
  obtain ⟨q9, e5, h⟩ := bindS h
  rcases q9 with ⟨r6, r7⟩ | r8 | _
  · replace h := (eL h)
    refine AOps.cc hT hA {} (by cbv) (lb rfl) (R70wa hA e5) rfl (.inl rfl) rfl rfl rfl (lb rfl) rfl rfl ?_
    refine AOps.cd hT hA {} (by cbv) (lb rfl) ?_
    refine nT ?_
    refine AWp.seq ?_
    refine AWp.seq ?_
    have f10 := zeqF hA (a := 0) (b := 0) (c := true) rfl
    refine AWp.rg hT hA {} (by (repeat (cbv; simp only [f10])); first | done | cbv) (lb rfl) ?_
    refine nT ?_
    refine AWp.cdF rfl (by first | rfl | simp only [f10, Bool.not_true, Bool.not_false, cond_true, cond_false]) ?_
    refine AWp.skip ?_
    refine nT ?_
    refine AWp.seq ?_
    refine AWp.region ?_
    obtain ⟨r12, e11, h⟩ := bindS h
    refine AOps.cc hT hA { tk := [30], nl := [30] } (by (repeat (cbv; simp only [f10])); first | done | cbv) (lb rfl) (R62w hA e11) rfl (.inr rfl) rfl rfl rfl (lb rfl) rfl rfl ?_
    obtain ⟨r14, e13, h⟩ := bindS h
    refine AOps.cc hT hA { tk := [30], nl := [30] } (by (repeat (cbv; simp only [f10])); first | done | cbv) (lb rfl) (R62aw hA e13) rfl (.inl rfl) rfl rfl rfl (lb rfl) rfl rfl ?_
    refine AOps.cd hT hA { tk := [30], nl := [30] } (by (repeat (cbv; simp only [f10])); first | done | cbv) (lb rfl) ?_
    refine nT ?_
    refine AWp.seq ?_
    refine AWp.rg hT hA {} (by (repeat (cbv; simp only [f10])); first | done | cbv) (lb rfl) ?_
    refine nT ?_
    refine AWp.seq ?_
    refine AWp.seq ?_
    refine AWp.rg hT hA { tk := [39], arr := [11] } (by (repeat (cbv; simp only [f10])); first | done | cbv) (lb rfl) ?_
    refine nT ?_
    refine AWp.block ?_
    obtain ⟨xK234, hxK234, K234, hK234, hkK234⟩ := bindK h
    refine AWp.cutX 0 [] [] 3 (lb rfl) (fun τ => ∃ v231, K234 (.inl v231) = some (v237, v238) ∧ τ = { env := [], heap := [(.arr 1 r6), (.arr 1 r7), (.map true [.int .u8, .int .u8] v231)], n := 98 }) ?_ ?_
    · skip
      refine AWp.iter hxK234 [6, 7, 10, 11] [1000011] 3 (lb rfl) (fun (v158, v159) => { env := [(6, (.ptr 0 0)), (7, (.ptr 1 0)), (10, (.map 2)), (11, (.tail 3 v158))], heap := [(.arr 1 r6), (.arr 1 r7), (.map true [.int .u8, .int .u8] v159)], n := 98 }) ⟨rfl, (by first | (cbv; done) | ((repeat (cbv; simp only [f10])); first | done | cbv))⟩ ?_
      rintro ⟨v158, v159⟩ eK234 hsK234
      dsimp only [R23L1] at hsK234
      refine AWp.seq ?_
      refine AWp.seq ?_
      refine AWp.rg hT hA {} (by cbv) (lb rfl) ?_
      refine nT ?_
      rcases tf (A.zlt 0 (A.len v158)) with c160 | c160
      · replace hsK234 := cT c160 hsK234
        refine AWp.cdT rfl (by first | rfl | simp only [c160, Bool.not_true, Bool.not_false, cond_true, cond_false]) ?_
        refine AWp.skip ?_
        refine nT ?_
        refine AWp.seq ?_
        refine AWp.block ?_
        refine AWp.seq ?_
        obtain ⟨⟨a161, a162, a163⟩, e164, hsK234⟩ := bindS hsK234
        have f165 := gcI e164
        refine AWp.rg hT hA { tk := [47] } (by (repeat (cbv; simp only [c160, f165])); first | done | cbv) (lb rfl) ?_
        refine nT ?_
        refine AWp.seq ?_
        refine AWp.seq ?_
        refine AWp.rg hT hA {} (by (repeat (cbv; simp only [c160])); first | done | cbv) (lb rfl) ?_
        refine nT ?_
        rcases tf (A.zeq a162 0) with c166 | c166
        · replace hsK234 := cT c166 hsK234
          refine AWp.cdT rfl (by first | rfl | simp only [c160, c166, Bool.not_true, Bool.not_false, cond_true, cond_false]) ?_
          refine AWp.seq ?_
          refine AWp.rg hT hA {} (by (repeat (cbv; simp only [c160, c166])); first | done | cbv) (lb rfl) ?_
          refine nT ?_
          refine AWp.ret ?_
          refine rT ?_
          refine rB ?_
          refine rT ?_
          refine rT ?_
          refine exL hsK234 fun hx => ?_
          subst hx
          refine oxR ?_
          replace hkK234 := (eR (hK234 _ hkK234))
          refine rB ?_
          refine rT ?_
          cases soI hkK234
          exact ⟨rfl, rfl, rfl, lb rfl, _, rfl⟩
        · replace hsK234 := cF c166 hsK234
          refine AWp.cdF rfl (by first | rfl | simp only [c160, c166, Bool.not_true, Bool.not_false, cond_true, cond_false]) ?_
          refine AWp.skip ?_
          refine nT ?_
          refine AWp.seq ?_
          refine AWp.rg hT hA {} (by (repeat (cbv; simp only [c160, c166])); first | done | cbv) (lb rfl) ?_
          refine nT ?_
          refine AWp.block ?_
          obtain ⟨xK224, hxK224, K224, hK224, hkK224⟩ := bindK hsK234
          refine AWp.cutX 2 [6, 7, 10, 11] [] 3 (lb rfl) (fun τ => ∃ v222 v223, K224 (v222, v223) = some eK234 ∧ τ = { env := [(6, (.ptr 0 0)), (7, (.ptr 1 0)), (10, (.map 2)), (11, (.tail 3 v222))], heap := [(.arr 1 r6), (.arr 1 r7), (.map true [.int .u8, .int .u8] v223)], n := 98 }) ?_ ?_
          · skip
            refine AWp.iter hxK224 [6, 7, 10, 11, 12, 13] [] 3 (lb rfl) (fun (v193, v194, v195) => { env := [(6, (.ptr 0 0)), (7, (.ptr 1 0)), (10, (.map 2)), (11, (.tail 3 v193)), (12, (.lbox [(.d (.int .u8 a161)), (.d (.int .u8 a162)), (.d (.list 1 a163))])), (13, (.d (.int .i64 v194)))], heap := [(.arr 1 r6), (.arr 1 r7), (.map true [.int .u8, .int .u8] v195)], n := 98 }) ⟨rfl, (by first | (cbv; done) | ((repeat (cbv; simp only [c160, c166])); first | done | cbv))⟩ ?_
            rintro ⟨v193, v194, v195⟩ eK224 hsK224
            dsimp only [R23L0] at hsK224
            refine AWp.seq ?_
            refine AWp.seq ?_
            refine AWp.rg hT hA {} (by cbv) (lb rfl) ?_
            refine nT ?_
            rcases tf (A.zle v194 3) with c196 | c196
            · replace hsK224 := cT c196 hsK224
              refine AWp.cdT rfl (by first | rfl | simp only [c196, Bool.not_true, Bool.not_false, cond_true, cond_false]) ?_
              refine AWp.skip ?_
              refine nT ?_
              refine AWp.seq ?_
              refine AWp.block ?_
              refine AWp.seq ?_
              refine AWp.regionDraw rfl (lb rfl) ?_
              obtain ⟨r198, e197, hsK224⟩ := bindS hsK224
              refine DOps.cp hT hA { tk := [77] } rfl (by (repeat (cbv; simp only [c196])); first | done | cbv) (R68aw hA e197) rfl rfl rfl rfl (lb rfl) rfl rfl ?_
              obtain ⟨r200, e199, hsK224⟩ := bindS hsK224
              refine DOps.cp hT hA { tk := [77] } rfl (by (repeat (cbv; simp only [c196])); first | done | cbv) (R68cw hA e199) rfl rfl rfl rfl (lb rfl) rfl rfl ?_
              obtain ⟨r202, e201, hsK224⟩ := bindS hsK224
              refine DOps.c0 hT hA { tk := [77] } rfl (by (repeat (cbv; simp only [c196])); first | done | cbv) (R67w hA e201) rfl rfl (lb rfl) rfl rfl ?_
              obtain ⟨l203, e204, hsK224⟩ := bindS hsK224
              obtain ⟨f205, f206⟩ := apI e204
              refine DOps.cd hT hA { tk := [77] } rfl (by (repeat (cbv; simp only [c196, f205, f206])); first | done | cbv) (by kernel_rfl) ?_
              refine nT ?_
              refine AWp.seq ?_
              refine AWp.rg hT hA { tk := [82] } (by (repeat (cbv; simp only [c196])); first | done | cbv) (lb rfl) ?_
              refine nT ?_
              refine AWp.seq ?_
              obtain ⟨v212, hvK213, hsK224⟩ := bindS hsK224
              refine AWp.cutN [6, 7, 10, 11, 12, 13, 14, 15, 91] [] 3 (lb rfl) (fun τ => τ = { env := [(6, (.ptr 0 0)), (7, (.ptr 1 0)), (10, (.map 2)), (11, (.tail 3 v193)), (12, (.lbox [(.d (.int .u8 a161)), (.d (.int .u8 a162)), (.d (.list 1 a163))])), (13, (.d (.int .i64 v194))), (14, (.lbox [(.d (.int .u8 r198)), (.d (.int .u8 r200)), (.d (.list 1 l203))])), (15, (.lbox [(.d (.int .u8 r198)), (.d (.int .u8 r200))])), (91, (.d (.bool v212)))], heap := [(.arr 1 r6), (.arr 1 r7), (.map true [.int .u8, .int .u8] v195)], n := 98 }) ?_ ?_
              · skip
                rcases tf (A.zeq r198 0) with c207 | c207
                · replace hvK213 := cT c207 hvK213
                  refine AWp.rg hT hA {} (by (repeat (cbv; simp only [c196, c207])); first | done | cbv) (lb rfl) ?_
                  cases soI hvK213
                  exact oNi ⟨rfl, (by first | (cbv; done) | ((repeat (cbv; simp only [c196, c207])); first | done | cbv))⟩
                · replace hvK213 := cF c207 hvK213
                  obtain ⟨o211, e209, hvK213⟩ := bindS hvK213
                  rcases o211 with _ | a208
                  · have f210 := lkN e209
                    refine AWp.rg hT hA {} (by (repeat (cbv; simp only [c196, c207, f210])); first | done | cbv) (lb rfl) ?_
                    cases soI hvK213
                    exact oNi ⟨rfl, (by first | (cbv; done) | ((repeat (cbv; simp only [c196, c207])); first | done | cbv))⟩
                  · have f210 := lkS e209
                    refine AWp.rg hT hA {} (by (repeat (cbv; simp only [c196, c207, f210])); first | done | cbv) (lb rfl) ?_
                    cases soI hvK213
                    exact oNi ⟨rfl, (by first | (cbv; done) | ((repeat (cbv; simp only [c196, c207])); first | done | cbv))⟩
              · rintro _ rfl
                refine nT ?_
                obtain ⟨⟨v219, v220⟩, hvK221, hsK224⟩ := bindS hsK224
                refine AWp.cutN [6, 7, 10, 11, 12, 13] [] 3 (lb rfl) (fun τ => τ = { env := [(6, (.ptr 0 0)), (7, (.ptr 1 0)), (10, (.map 2)), (11, (.tail 3 v219)), (12, (.lbox [(.d (.int .u8 a161)), (.d (.int .u8 a162)), (.d (.list 1 a163))])), (13, (.d (.int .i64 v194)))], heap := [(.arr 1 r6), (.arr 1 r7), (.map true [.int .u8, .int .u8] v220)], n := 98 }) ?_ ?_
                · skip
                  rcases tf v212 with c214 | c214
                  · replace hvK221 := cT c214 hvK221
                    refine AWp.cdT rfl (by first | rfl | simp only [c214, Bool.not_true, Bool.not_false, cond_true, cond_false]) ?_
                    refine AWp.seq ?_
                    refine AWp.rg hT hA {} (by (repeat (cbv; simp only [c214])); first | done | cbv) (lb rfl) ?_
                    refine nT ?_
                    obtain ⟨l215, e216, hvK221⟩ := bindS hvK221
                    obtain ⟨f217, f218⟩ := apI e216
                    refine AWp.rg hT hA { tk := [11, 97], arr := [11, 94, 97] } (by (repeat (cbv; simp only [c214, f217, f218])); first | done | cbv) (lb rfl) ?_
                    cases soI hvK221
                    exact oNi ⟨rfl, (by first | (cbv; done) | ((repeat (cbv; simp only [c214])); first | done | cbv))⟩
                  · replace hvK221 := cF c214 hvK221
                    refine AWp.cdF rfl (by first | rfl | simp only [c214, Bool.not_true, Bool.not_false, cond_true, cond_false]) ?_
                    refine AWp.skip ?_
                    cases soI hvK221
                    exact oNi ⟨rfl, (by first | (cbv; done) | ((repeat (cbv; simp only [c214])); first | done | cbv))⟩
                · rintro _ rfl
                  refine nB ?_
                  refine nT ?_
                  refine AWp.rg hT hA {} (by cbv) (lb rfl) ?_
                  exact nT ⟨_, (soI hsK224).symm, rfl, (by cbv)⟩
            · replace hsK224 := cF c196 hsK224
              refine AWp.cdF rfl (by first | rfl | simp only [c196, Bool.not_true, Bool.not_false, cond_true, cond_false]) ?_
              refine AWp.exit ?_
              refine xT ?_
              refine xT ?_
              refine exL hsK224 fun hx => ?_
              subst hx
              exact oxI ⟨rfl, _, _, hkK224, (by first | (cbv; done) | ((repeat (cbv; simp only [c196])); first | done | cbv))⟩
          · rintro _ ⟨v222, v223, hkK224, rfl⟩
            have hsK234 := (hK224 _ hkK224)
            refine xB ?_
            refine nB ?_
            refine nT ?_
            obtain ⟨l225, e226, hsK234⟩ := bindS hsK234
            obtain ⟨f227, f228, f229, f230⟩ := slI e226
            refine AWp.rg hT hA { tk := [11, 44], arr := [11, 43, 44] } (by (repeat (cbv; simp only [f227, f228, f229, f230])); first | done | cbv) (lb rfl) ?_
            exact nT ⟨_, (soI hsK234).symm, rfl, (by cbv)⟩
      · replace hsK234 := cF c160 hsK234
        refine AWp.cdF rfl (by first | rfl | simp only [c160, Bool.not_true, Bool.not_false, cond_true, cond_false]) ?_
        refine AWp.exit ?_
        refine xT ?_
        refine xT ?_
        refine exL hsK234 fun hx => ?_
        subst hx
        exact oxI ⟨rfl, _, hkK234, (by first | (cbv; done) | ((repeat (cbv; simp only [c160])); first | done | cbv))⟩
    · rintro _ ⟨v231, hkK234, rfl⟩
      have h := (eL (hK234 _ hkK234))
      refine xB ?_
      refine nT ?_
      refine AWp.seq ?_
      refine AWp.rg hT hA {} (by cbv) (lb rfl) ?_
      refine nT ?_
      refine AWp.ret ?_
      cases soI h
      exact ⟨rfl, rfl, rfl, lb rfl, _, rfl⟩
  · replace h := (eL (eR h))
    refine AOps.cc hT hA {} (by cbv) (lb rfl) (R70wb hA e5) rfl (.inl rfl) rfl rfl rfl (lb rfl) rfl rfl ?_
    refine AOps.cd hT hA {} (by cbv) (lb rfl) ?_
    refine nT ?_
    refine AWp.seq ?_
    refine AWp.seq ?_
    have f235 := zeqF hA (a := 50) (b := 0) (c := false) rfl
    refine AWp.rg hT hA {} (by (repeat (cbv; simp only [f235])); first | done | cbv) (lb rfl) ?_
    refine nT ?_
    refine AWp.cdT rfl (by first | rfl | simp only [f235, Bool.not_true, Bool.not_false, cond_true, cond_false]) ?_
    refine AWp.seq ?_
    refine AWp.rg hT hA {} (by (repeat (cbv; simp only [f235])); first | done | cbv) (lb rfl) ?_
    refine nT ?_
    refine AWp.ret ?_
    refine rT ?_
    cases soI h
    exact ⟨rfl, rfl, rfl, lb rfl, _, rfl⟩
  · replace h := (eR (eR h))
    refine AOps.cc hT hA {} (by cbv) (lb rfl) (R70wc hA e5) rfl (.inl rfl) rfl rfl rfl (lb rfl) rfl rfl ?_
    refine AOps.cd hT hA {} (by cbv) (lb rfl) ?_
    refine nT ?_
    refine AWp.seq ?_
    refine AWp.seq ?_
    have f236 := zeqF hA (a := 50) (b := 0) (c := false) rfl
    refine AWp.rg hT hA {} (by (repeat (cbv; simp only [f236])); first | done | cbv) (lb rfl) ?_
    refine nT ?_
    refine AWp.cdT rfl (by first | rfl | simp only [f236, Bool.not_true, Bool.not_false, cond_true, cond_false]) ?_
    refine AWp.seq ?_
    refine AWp.rg hT hA {} (by (repeat (cbv; simp only [f236])); first | done | cbv) (lb rfl) ?_
    refine nT ?_
    refine AWp.ret ?_
    refine rT ?_
    cases soI h
    exact ⟨rfl, rfl, rfl, lb rfl, _, rfl⟩

theorem R27w {A : Ar} (hA : A = Ar.std) {x1 : List D} {x2 : List D} {v26 : Bool} (h : R27 A x1 x2 = some v26) : ACall Try.prog 27 [(.d (.list 1 x1)), (.d (.list 1 x2))] [] (.d (.bool v26)) [] := by
  unfold R27 at h
  refine ACall.enter hT (fn := Try.f27) Try.func27 rfl (by decide) (by simp [Try.f27]) rfl rfl rfl rfl (lb rfl) ?_
  refine AWp.seq ?_
  refine AWp.rg hT hA {} (by cbv) (lb rfl) ?_
  refine nT ?_
  refine AWp.seq ?_
  refine AWp.seq ?_
  refine AWp.rg hT hA {} (by cbv) (lb rfl) ?_
  refine nT ?_
  rcases tf (A.zeq (A.len x1) (A.len x2)) with c3 | c3
  · replace h := cT c3 h
    refine AWp.cdF rfl (by first | rfl | simp only [c3, Bool.not_true, Bool.not_false, cond_true, cond_false]) ?_
    refine AWp.skip ?_
    refine nT ?_
    refine AWp.seq ?_
    refine AWp.seq ?_
    refine AWp.rg hT hA {} (by (repeat (cbv; simp only [c3])); first | done | cbv) (lb rfl) ?_
    refine nT ?_
    refine AWp.block ?_
    obtain ⟨xK25, hxK25, K25, hK25, hkK25⟩ := bindK h
    refine AWp.cutX 0 [] [] 0 (lb rfl) (fun τ => K25 (.inl ()) = some v26 ∧ τ = { env := [], heap := [], n := 26 }) ?_ ?_
    · skip
      refine AWp.iter hxK25 [0, 1, 12, 13] [] 0 (lb rfl) (fun v14 => { env := [(0, (.d (.list 1 x1))), (1, (.d (.list 1 x2))), (12, (.d (.int .i64 (A.len x1)))), (13, (.d (.int .i64 v14)))], heap := [], n := 26 }) ⟨rfl, (by first | (cbv; done) | ((repeat (cbv; simp only [c3])); first | done | cbv))⟩ ?_
      rintro v14 eK25 hsK25
      dsimp only [R27L0] at hsK25
      refine AWp.seq ?_
      refine AWp.rg hT hA {} (by cbv) (lb rfl) ?_
      refine nT ?_
      refine AWp.seq ?_
      rcases tf (A.zlt v14 (A.len x1)) with c15 | c15
      · replace hsK25 := cT c15 hsK25
        refine AWp.cdT rfl (by first | rfl | simp only [c15, Bool.not_true, Bool.not_false, cond_true, cond_false]) ?_
        refine AWp.skip ?_
        refine nT ?_
        refine AWp.seq ?_
        refine AWp.block ?_
        refine AWp.seq ?_
        refine AWp.rg hT hA {} (by (repeat (cbv; simp only [c15])); first | done | cbv) (lb rfl) ?_
        refine nT ?_
        refine AWp.seq ?_
        obtain ⟨a16, e17, hsK25⟩ := bindS hsK25
        obtain ⟨f18, f19⟩ := gtI e17
        obtain ⟨a20, e21, hsK25⟩ := bindS hsK25
        obtain ⟨f22, f23⟩ := gtI e21
        refine AWp.rd hT hA {} rfl (by (repeat (cbv; simp only [c15, f18, f19, f22, f23])); first | done | cbv) (by kernel_rfl) (lb rfl) ?_
        refine nT ?_
        rcases tf (A.zeq a16 a20) with c24 | c24
        · replace hsK25 := cT c24 hsK25
          refine AWp.cdF rfl (by first | rfl | simp only [c15, c24, Bool.not_true, Bool.not_false, cond_true, cond_false]) ?_
          refine AWp.skip ?_
          refine nB ?_
          refine nT ?_
          refine AWp.rg hT hA {} (by (repeat (cbv; simp only [c15, c24])); first | done | cbv) (lb rfl) ?_
          exact nT ⟨_, (soI hsK25).symm, rfl, (by first | (cbv; done) | ((repeat (cbv; simp only [c15, c24])); first | done | cbv))⟩
        · replace hsK25 := cF c24 hsK25
          refine AWp.cdT rfl (by first | rfl | simp only [c15, c24, Bool.not_true, Bool.not_false, cond_true, cond_false]) ?_
          refine AWp.seq ?_
          refine AWp.rg hT hA {} (by (repeat (cbv; simp only [c15, c24])); first | done | cbv) (lb rfl) ?_
          refine nT ?_
          refine AWp.ret ?_
          refine rB ?_
          refine rT ?_
          refine rT ?_
          refine exL hsK25 fun hx => ?_
          subst hx
          refine oxR ?_
          replace hkK25 := (eR (hK25 _ hkK25))
          refine rB ?_
          refine rT ?_
          cases soI hkK25
          exact ⟨rfl, rfl, rfl, lb rfl, _, rfl⟩
      · replace hsK25 := cF c15 hsK25
        refine AWp.cdF rfl (by first | rfl | simp only [c15, Bool.not_true, Bool.not_false, cond_true, cond_false]) ?_
        refine AWp.exit ?_
        refine xT ?_
        refine xT ?_
        refine exL hsK25 fun hx => ?_
        subst hx
        exact oxI ⟨rfl, hkK25, (by first | (cbv; done) | ((repeat (cbv; simp only [c15])); first | done | cbv))⟩
    · rintro _ ⟨hkK25, rfl⟩
      have h := (eL (hK25 _ hkK25))
      refine xB ?_
      refine nT ?_
      refine AWp.seq ?_
      refine AWp.rg hT hA {} (by cbv) (lb rfl) ?_
      refine nT ?_
      refine AWp.ret ?_
      cases soI h
      exact ⟨rfl, rfl, rfl, lb rfl, _, rfl⟩
  · replace h := cF c3 h
    refine AWp.cdT rfl (by first | rfl | simp only [c3, Bool.not_true, Bool.not_false, cond_true, cond_false]) ?_
    refine AWp.seq ?_
    refine AWp.rg hT hA {} (by (repeat (cbv; simp only [c3])); first | done | cbv) (lb rfl) ?_
    refine nT ?_
    refine AWp.ret ?_
    refine rT ?_
    cases soI h
    exact ⟨rfl, rfl, rfl, lb rfl, _, rfl⟩

theorem R17w {A : Ar} (hA : A = Ar.std) {v9 : Bool} (h : R17 A = some v9) : ACall Try.prog 17 [] [] (.d (.bool v9)) [] := by
  unfold R17 at h
  refine ACall.enter hT (fn := Try.f17) Try.func17 rfl (by decide) (by simp [Try.f17]) rfl rfl rfl rfl (lb rfl) ?_
  refine AWp.seq ?_
  refine AWp.rg hT hA {} (by cbv) (lb rfl) ?_
  refine nT ?_
  refine AWp.seq ?_
  refine AWp.rg hT hA { tk := [8] } (by cbv) (lb rfl) ?_
  refine nT ?_
  refine AWp.seq ?_
  refine AWp.rg hT hA { tk := [13] } (by cbv) (lb rfl) ?_
  refine nT ?_
  refine AWp.seq ?_
  refine AWp.region ?_
  obtain ⟨⟨r2, r3⟩, e1, h⟩ := bindS h
  refine AOps.cc hT hA {} (by cbv) (lb rfl) (R23w hA e1) rfl (.inl rfl) rfl rfl rfl (lb rfl) rfl rfl ?_
  refine AOps.cd hT hA {} (by cbv) (lb rfl) ?_
  refine nT ?_
  refine AWp.seq ?_
  obtain ⟨v7, hvK8, h⟩ := bindS h
  refine AWp.cutN [0] [] 0 (lb rfl) (fun τ => τ = { env := [(0, (.d (.bool v7)))], heap := [], n := 27 }) ?_ ?_
  · skip
    refine AWp.region ?_
    rcases tf (A.zeq r3 0) with c4 | c4
    · replace hvK8 := cT c4 hvK8
      obtain ⟨r6, e5, hvK8⟩ := bindS hvK8
      refine AOps.cc hT hA { tk := [26] } (by (repeat (cbv; simp only [c4])); first | done | cbv) (lb rfl) (R27w hA e5) rfl (.inl rfl) rfl rfl rfl (lb rfl) rfl rfl ?_
      refine AOps.cd hT hA { tk := [26] } (by (repeat (cbv; simp only [c4])); first | done | cbv) (lb rfl) ?_
      cases soI hvK8
      exact oNi ⟨rfl, (by first | (cbv; done) | ((repeat (cbv; simp only [c4])); first | done | cbv))⟩
    · replace hvK8 := cF c4 hvK8
      refine AOps.cd hT hA { tk := [26] } (by (repeat (cbv; simp only [c4])); first | done | cbv) (lb rfl) ?_
      cases soI hvK8
      exact oNi ⟨rfl, (by first | (cbv; done) | ((repeat (cbv; simp only [c4])); first | done | cbv))⟩
  · rintro _ rfl
    refine nT ?_
    refine AWp.ret ?_
    cases soI h
    exact ⟨rfl, rfl, rfl, lb rfl, _, rfl⟩

theorem R61w {A : Ar} (hA : A = Ar.std) {x1 : Int} {v4 : Bool} (h : R61 A x1 = some v4) : ACall Try.prog 61 [(.d (.int .i64 x1))] [] (.d (.bool v4)) [] := by
  unfold R61 at h
  refine ACall.enter hT (fn := Try.f61) Try.func61 rfl (by decide) (by simp [Try.f61]) rfl rfl rfl rfl (lb rfl) ?_
  refine AWp.seq ?_
  refine AWp.rg hT hA {} (by cbv) (lb rfl) ?_
  refine nT ?_
  refine AWp.seq ?_
  refine AWp.region ?_
  obtain ⟨r3, e2, h⟩ := bindS h
  refine AOps.cc hT hA { tk := [4] } (by cbv) (lb rfl) (R65w hA e2) rfl (.inl rfl) rfl rfl rfl (lb rfl) rfl rfl ?_
  refine AOps.cd hT hA { tk := [4] } (by cbv) (lb rfl) ?_
  refine nT ?_
  refine AWp.ret ?_
  cases soI h
  exact ⟨rfl, rfl, rfl, lb rfl, _, rfl⟩

theorem R60w {A : Ar} (hA : A = Ar.std) {x1 : Int} {v4 : Bool} (h : R60 A x1 = some v4) : ACall Try.prog 60 [(.d (.int .i64 x1))] [] (.d (.bool v4)) [] := by
  unfold R60 at h
  refine ACall.enter hT (fn := Try.f60) Try.func60 rfl (by decide) (by simp [Try.f60]) rfl rfl rfl rfl (lb rfl) ?_
  refine AWp.seq ?_
  refine AWp.rg hT hA {} (by cbv) (lb rfl) ?_
  refine nT ?_
  refine AWp.seq ?_
  refine AWp.region ?_
  obtain ⟨r3, e2, h⟩ := bindS h
  refine AOps.cc hT hA { tk := [5] } (by cbv) (lb rfl) (R61w hA e2) rfl (.inl rfl) rfl rfl rfl (lb rfl) rfl rfl ?_
  refine AOps.cd hT hA { tk := [5] } (by cbv) (lb rfl) ?_
  refine nT ?_
  refine AWp.ret ?_
  cases soI h
  exact ⟨rfl, rfl, rfl, lb rfl, _, rfl⟩

theorem R106w {A : Ar} (hA : A = Ar.std) {x1 : List D} {v21 : Int} (h : R106 A x1 = some v21) : ACall Try.prog 106 [(.d (.list 1 x1)), (.func 60 [] [])] [] (.d (.int .i64 v21)) [] := by
  unfold R106 at h
  refine ACall.enter hT (fn := Try.f106) Try.func106 rfl (by decide) (by simp [Try.f106]) rfl rfl rfl rfl (lb rfl) ?_
  refine AWp.seq ?_
  refine AWp.rg hT hA {} (by cbv) (lb rfl) ?_
  refine nT ?_
  refine AWp.seq ?_
  refine AWp.seq ?_
  refine AWp.rg hT hA {} (by cbv) (lb rfl) ?_
  refine nT ?_
  refine AWp.block ?_
  obtain ⟨xK20, hxK20, K20, hK20, hkK20⟩ := bindK h
  refine AWp.cutX 0 [] [] 0 (lb rfl) (fun τ => K20 (.inl ()) = some v21 ∧ τ = { env := [], heap := [], n := 19 }) ?_ ?_
  · skip
    refine AWp.iter hxK20 [0, 1, 7, 8] [] 0 (lb rfl) (fun v10 => { env := [(0, (.d (.list 1 x1))), (1, (.func 60 [] [])), (7, (.d (.int .i64 (A.len x1)))), (8, (.d (.int .i64 v10)))], heap := [], n := 19 }) ⟨rfl, (by cbv)⟩ ?_
    rintro v10 eK20 hsK20
    dsimp only [R106L0] at hsK20
    refine AWp.seq ?_
    refine AWp.rg hT hA {} (by cbv) (lb rfl) ?_
    refine nT ?_
    refine AWp.seq ?_
    rcases tf (A.zlt v10 (A.len x1)) with c11 | c11
    · replace hsK20 := cT c11 hsK20
      refine AWp.cdT rfl (by first | rfl | simp only [c11, Bool.not_true, Bool.not_false, cond_true, cond_false]) ?_
      refine AWp.skip ?_
      refine nT ?_
      refine AWp.seq ?_
      refine AWp.block ?_
      refine AWp.seq ?_
      refine AWp.rg hT hA { tk := [8, 10] } (by (repeat (cbv; simp only [c11])); first | done | cbv) (lb rfl) ?_
      refine nT ?_
      refine AWp.seq ?_
      refine AWp.region ?_
      obtain ⟨a12, e13, hsK20⟩ := bindS hsK20
      obtain ⟨f14, f15⟩ := gtI e13
      obtain ⟨r17, e16, hsK20⟩ := bindS hsK20
      refine AOps.cc hT hA {} (by (repeat (cbv; simp only [c11, f14, f15])); first | done | cbv) (lb rfl) (R60w hA e16) rfl (.inl rfl) rfl rfl rfl (lb rfl) rfl rfl ?_
      refine AOps.cd hT hA {} (by (repeat (cbv; simp only [c11, f14, f15])); first | done | cbv) (lb rfl) ?_
      refine nT ?_
      rcases tf r17 with c18 | c18
      · replace hsK20 := cT c18 hsK20
        refine AWp.cdT rfl (by first | rfl | simp only [c11, c18, Bool.not_true, Bool.not_false, cond_true, cond_false]) ?_
        refine AWp.seq ?_
        refine AWp.rg hT hA { tk := [5, 17] } (by (repeat (cbv; simp only [c11, c18])); first | done | cbv) (lb rfl) ?_
        refine nT ?_
        refine AWp.ret ?_
        refine rB ?_
        refine rT ?_
        refine rT ?_
        refine exL hsK20 fun hx => ?_
        subst hx
        refine oxR ?_
        replace hkK20 := (eR (hK20 _ hkK20))
        refine rB ?_
        refine rT ?_
        cases soI hkK20
        exact ⟨rfl, rfl, rfl, lb rfl, _, rfl⟩
      · replace hsK20 := cF c18 hsK20
        refine AWp.cdF rfl (by first | rfl | simp only [c11, c18, Bool.not_true, Bool.not_false, cond_true, cond_false]) ?_
        refine AWp.skip ?_
        refine nB ?_
        refine nT ?_
        refine AWp.rg hT hA { tk := [18] } (by (repeat (cbv; simp only [c11, c18])); first | done | cbv) (lb rfl) ?_
        exact nT ⟨_, (soI hsK20).symm, rfl, (by first | (cbv; done) | ((repeat (cbv; simp only [c11, c18])); first | done | cbv))⟩
    · replace hsK20 := cF c11 hsK20
      refine AWp.cdF rfl (by first | rfl | simp only [c11, Bool.not_true, Bool.not_false, cond_true, cond_false]) ?_
      refine AWp.exit ?_
      refine xT ?_
      refine xT ?_
      refine exL hsK20 fun hx => ?_
      subst hx
      exact oxI ⟨rfl, hkK20, (by first | (cbv; done) | ((repeat (cbv; simp only [c11])); first | done | cbv))⟩
  · rintro _ ⟨hkK20, rfl⟩
    have h := (eL (hK20 _ hkK20))
    refine xB ?_
    refine nT ?_
    refine AWp.seq ?_
    refine AWp.rg hT hA {} (by cbv) (lb rfl) ?_
    refine nT ?_
    refine AWp.ret ?_
    cases soI h
    exact ⟨rfl, rfl, rfl, lb rfl, _, rfl⟩

theorem R59w {A : Ar} (hA : A = Ar.std) {x1 : List D} {v4 : Bool} (h : R59 A x1 = some v4) : ACall Try.prog 59 [(.d (.list 1 x1)), (.func 60 [] [])] [] (.d (.bool v4)) [] := by
  unfold R59 at h
  refine ACall.enter hT (fn := Try.f59) Try.func59 rfl (by decide) (by simp [Try.f59]) rfl rfl rfl rfl (lb rfl) ?_
  refine AWp.seq ?_
  refine AWp.rg hT hA {} (by cbv) (lb rfl) ?_
  refine nT ?_
  refine AWp.seq ?_
  refine AWp.region ?_
  obtain ⟨r3, e2, h⟩ := bindS h
  refine AOps.cc hT hA { tk := [8] } (by cbv) (lb rfl) (R106w hA e2) rfl (.inl rfl) rfl rfl rfl (lb rfl) rfl rfl ?_
  refine AOps.cd hT hA { tk := [8] } (by cbv) (lb rfl) ?_
  refine nT ?_
  refine AWp.ret ?_
  cases soI h
  exact ⟨rfl, rfl, rfl, lb rfl, _, rfl⟩

theorem R18w {A : Ar} (hA : A = Ar.std) {x1 : Int} {x2 : List D} {x3 : List D} {v17 : Bool} {v18 : Int} (h : R18 A x1 x2 x3 = some (v17, v18)) : ACall Try.prog 18 [(.d (.agg [(.int .i64 x1), (.list 3 x2)])), (.d (.list 1 x3))] [] (.tuple [(.d (.bool v17)), (.d (.int .i64 v18))]) [] := by
  unfold R18 at h
  refine ACall.enter hT (fn := Try.f18) Try.func18 rfl (by decide) (by simp [Try.f18]) rfl rfl rfl rfl (lb rfl) ?_
  refine AWp.seq ?_
  refine AWp.rg hT hA {} (by cbv) (lb rfl) ?_
  refine nT ?_
  refine AWp.seq ?_
  refine AWp.region ?_
  obtain ⟨q6, e4, h⟩ := bindS h
  rcases q6 with r5 | _
  · replace h := (eL h)
    refine AOps.cc hT hA {} (by cbv) (lb rfl) (R58wa hA e4) rfl (.inl rfl) rfl rfl rfl (lb rfl) rfl rfl ?_
    refine AOps.cd hT hA {} (by cbv) (lb rfl) ?_
    refine nT ?_
    refine AWp.seq ?_
    refine AWp.block ?_
    refine AWp.seq ?_
    have f7 := zeqF hA (a := 0) (b := 0) (c := true) rfl
    refine AWp.rg hT hA {} (by (repeat (cbv; simp only [f7])); first | done | cbv) (lb rfl) ?_
    refine nT ?_
    refine AWp.cdF rfl (by first | rfl | simp only [f7, Bool.not_true, Bool.not_false, cond_true, cond_false]) ?_
    refine AWp.seq ?_
    obtain ⟨v11, hvK12, h⟩ := bindS h
    refine AWp.cutN [1, 6, 17] [] 1 (lb rfl) (fun τ => τ = { env := [(1, (.d (.list 1 x3))), (6, (.ptr 0 0)), (17, (.d (.bool v11)))], heap := [(.arr 1 r5)], n := 29 }) ?_ ?_
    · skip
      refine AWp.region ?_
      rcases tf (A.zlt 1000 (A.len x3)) with c8 | c8
      · replace hvK12 := cT c8 hvK12
        refine AOps.cd hT hA {} (by (repeat (cbv; simp only [f7, c8])); first | done | cbv) (lb rfl) ?_
        cases soI hvK12
        exact oNi ⟨rfl, (by first | (cbv; done) | ((repeat (cbv; simp only [f7, c8])); first | done | cbv))⟩
      · replace hvK12 := cF c8 hvK12
        obtain ⟨r10, e9, hvK12⟩ := bindS hvK12
        refine AOps.cc hT hA {} (by (repeat (cbv; simp only [f7, c8])); first | done | cbv) (lb rfl) (R59w hA e9) rfl (.inr rfl) rfl rfl rfl (lb rfl) rfl rfl ?_
        refine AOps.cd hT hA {} (by (repeat (cbv; simp only [f7, c8])); first | done | cbv) (lb rfl) ?_
        cases soI hvK12
        exact oNi ⟨rfl, (by first | (cbv; done) | ((repeat (cbv; simp only [f7, c8])); first | done | cbv))⟩
    · rintro _ rfl
      refine nT ?_
      rcases tf v11 with c13 | c13
      · replace h := cT c13 h
        refine AWp.cdT rfl (by first | rfl | simp only [c13, Bool.not_true, Bool.not_false, cond_true, cond_false]) ?_
        refine AWp.seq ?_
        refine AWp.rg hT hA {} (by (repeat (cbv; simp only [c13])); first | done | cbv) (lb rfl) ?_
        refine nT ?_
        refine AWp.ret ?_
        refine rB ?_
        refine rT ?_
        cases soI h
        exact ⟨rfl, rfl, rfl, lb rfl, _, rfl⟩
      · replace h := cF c13 h
        refine AWp.cdF rfl (by first | rfl | simp only [c13, Bool.not_true, Bool.not_false, cond_true, cond_false]) ?_
        refine AWp.skip ?_
        refine nB ?_
        refine nT ?_
        refine AWp.seq ?_
        refine AWp.region ?_
        obtain ⟨r15, e14, h⟩ := bindS h
        refine AOps.cc hT hA {} (by (repeat (cbv; simp only [c13])); first | done | cbv) (lb rfl) (R62w hA e14) rfl (.inl rfl) rfl rfl rfl (lb rfl) rfl rfl ?_
        refine AOps.cd hT hA {} (by (repeat (cbv; simp only [c13])); first | done | cbv) (lb rfl) ?_
        refine nT ?_
        refine AWp.ret ?_
        cases soI h
        exact ⟨rfl, rfl, rfl, lb rfl, _, rfl⟩
  · replace h := (eR h)
    refine AOps.cc hT hA {} (by cbv) (lb rfl) (R58wb hA e4) rfl (.inl rfl) rfl rfl rfl (lb rfl) rfl rfl ?_
    refine AOps.cd hT hA {} (by cbv) (lb rfl) ?_
    refine nT ?_
    refine AWp.seq ?_
    refine AWp.block ?_
    refine AWp.seq ?_
    have f16 := zeqF hA (a := 50) (b := 0) (c := false) rfl
    refine AWp.rg hT hA {} (by (repeat (cbv; simp only [f16])); first | done | cbv) (lb rfl) ?_
    refine nT ?_
    refine AWp.cdT rfl (by first | rfl | simp only [f16, Bool.not_true, Bool.not_false, cond_true, cond_false]) ?_
    refine AWp.seq ?_
    refine AWp.rg hT hA {} (by (repeat (cbv; simp only [f16])); first | done | cbv) (lb rfl) ?_
    refine nT ?_
    refine AWp.ret ?_
    refine rB ?_
    refine rT ?_
    cases soI h
    exact ⟨rfl, rfl, rfl, lb rfl, _, rfl⟩

theorem R77w {A : Ar} (hA : A = Ar.std) {x1 : Int} {x2 : List D} {x3 : Int} {v7 : Bool} (h : R77 A x1 x2 x3 = some v7) : ACall Try.prog 77 [(.d (.agg [(.int .i64 x1), (.list 3 x2)])), (.d (.int .i64 x3))] [] (.d (.bool v7)) [] := by
  unfold R77 at h
  refine ACall.enter hT (fn := Try.f77) Try.func77 rfl (by decide) (by simp [Try.f77]) rfl rfl rfl rfl (lb rfl) ?_
  refine AWp.seq ?_
  refine AWp.rg hT hA {} (by cbv) (lb rfl) ?_
  refine nT ?_
  refine AWp.seq ?_
  obtain ⟨v5, hvK6, h⟩ := bindS h
  refine AWp.cutN [4] [] 0 (lb rfl) (fun τ => τ = { env := [(4, (.d (.bool v5)))], heap := [], n := 13 }) ?_ ?_
  · skip
    rcases tf (A.zle 0 x3) with c4 | c4
    · replace hvK6 := cT c4 hvK6
      refine AWp.rg hT hA { tk := [12] } (by (repeat (cbv; simp only [c4])); first | done | cbv) (lb rfl) ?_
      cases soI hvK6
      exact oNi ⟨rfl, (by first | (cbv; done) | ((repeat (cbv; simp only [c4])); first | done | cbv))⟩
    · replace hvK6 := cF c4 hvK6
      refine AWp.rg hT hA { tk := [12] } (by (repeat (cbv; simp only [c4])); first | done | cbv) (lb rfl) ?_
      cases soI hvK6
      exact oNi ⟨rfl, (by first | (cbv; done) | ((repeat (cbv; simp only [c4])); first | done | cbv))⟩
  · rintro _ rfl
    refine nT ?_
    refine AWp.ret ?_
    cases soI h
    exact ⟨rfl, rfl, rfl, lb rfl, _, rfl⟩

theorem R34w {A : Ar} (hA : A = Ar.std) {x1 : Int} {x2 : List D} {v92 : Bool} (h : R34 A x1 x2 = some v92) : ACall Try.prog 34 [(.d (.agg [(.int .i64 x1), (.list 3 x2)]))] [] (.d (.bool v92)) [] := by
  unfold R34 at h
  refine ACall.enter hT (fn := Try.f34) Try.func34 rfl (by decide) (by simp [Try.f34]) rfl rfl rfl rfl (lb rfl) ?_
  refine AWp.seq ?_
  refine AWp.rg hT hA {} (by cbv) (lb rfl) ?_
  refine nT ?_
  refine AWp.seq ?_
  refine AWp.seq ?_
  obtain ⟨v5, hvK6, h⟩ := bindS h
  refine AWp.cutN [1, 20] [] 0 (lb rfl) (fun τ => τ = { env := [(1, (.lbox [(.d (.int .i64 x1)), (.d (.list 3 x2))])), (20, (.d (.bool v5)))], heap := [], n := 65 }) ?_ ?_
  · skip
    rcases tf (A.zlt x1 1) with c3 | c3
    · replace hvK6 := cT c3 hvK6
      refine AWp.rg hT hA {} (by (repeat (cbv; simp only [c3])); first | done | cbv) (lb rfl) ?_
      cases soI hvK6
      exact oNi ⟨rfl, (by first | (cbv; done) | ((repeat (cbv; simp only [c3])); first | done | cbv))⟩
    · replace hvK6 := cF c3 hvK6
      rcases tf (A.zlt 6 x1) with c4 | c4
      · replace hvK6 := cT c4 hvK6
        refine AWp.rg hT hA {} (by (repeat (cbv; simp only [c3, c4])); first | done | cbv) (lb rfl) ?_
        cases soI hvK6
        exact oNi ⟨rfl, (by first | (cbv; done) | ((repeat (cbv; simp only [c3, c4])); first | done | cbv))⟩
      · replace hvK6 := cF c4 hvK6
        refine AWp.rg hT hA {} (by (repeat (cbv; simp only [c3, c4])); first | done | cbv) (lb rfl) ?_
        cases soI hvK6
        exact oNi ⟨rfl, (by first | (cbv; done) | ((repeat (cbv; simp only [c3, c4])); first | done | cbv))⟩
  · rintro _ rfl
    refine nT ?_
    rcases tf v5 with c7 | c7
    · replace h := cT c7 h
      refine AWp.cdT rfl (by first | rfl | simp only [c7, Bool.not_true, Bool.not_false, cond_true, cond_false]) ?_
      refine AWp.seq ?_
      refine AWp.rg hT hA {} (by (repeat (cbv; simp only [c7])); first | done | cbv) (lb rfl) ?_
      refine nT ?_
      refine AWp.ret ?_
      refine rT ?_
      cases soI h
      exact ⟨rfl, rfl, rfl, lb rfl, _, rfl⟩
    · replace h := cF c7 h
      refine AWp.cdF rfl (by first | rfl | simp only [c7, Bool.not_true, Bool.not_false, cond_true, cond_false]) ?_
      refine AWp.skip ?_
      refine nT ?_
      refine AWp.seq ?_
      refine AWp.seq ?_
      refine AWp.rg hT hA {} (by (repeat (cbv; simp only [c7])); first | done | cbv) (lb rfl) ?_
      refine nT ?_
      refine AWp.block ?_
      obtain ⟨xK91, hxK91, K91, hK91, hkK91⟩ := bindK h
      refine AWp.cutX 0 [] [] 0 (lb rfl) (fun τ => K91 (.inl ()) = some v92 ∧ τ = { env := [], heap := [], n := 65 }) ?_ ?_
      · skip
        refine AWp.iter hxK91 [1, 22, 23, 24] [] 0 (lb rfl) (fun v49 => { env := [(1, (.lbox [(.d (.int .i64 x1)), (.d (.list 3 x2))])), (22, (.d (.list 3 x2))), (23, (.d (.int .i64 (A.len x2)))), (24, (.d (.int .i64 v49)))], heap := [], n := 65 }) ⟨rfl, (by first | (cbv; done) | ((repeat (cbv; simp only [c7])); first | done | cbv))⟩ ?_
        rintro v49 eK91 hsK91
        dsimp only [R34L1] at hsK91
        refine AWp.seq ?_
        refine AWp.rg hT hA {} (by cbv) (lb rfl) ?_
        refine nT ?_
        refine AWp.seq ?_
        rcases tf (A.zlt v49 (A.len x2)) with c50 | c50
        · replace hsK91 := cT c50 hsK91
          refine AWp.cdT rfl (by first | rfl | simp only [c50, Bool.not_true, Bool.not_false, cond_true, cond_false]) ?_
          refine AWp.skip ?_
          refine nT ?_
          refine AWp.seq ?_
          refine AWp.block ?_
          refine AWp.seq ?_
          obtain ⟨⟨a51, a52, a53⟩, e54, hsK91⟩ := bindS hsK91
          obtain ⟨f55, f56⟩ := gtI e54
          refine AWp.rg hT hA { tk := [28] } (by (repeat (cbv; simp only [c50, f55, f56])); first | done | cbv) (lb rfl) ?_
          refine nT ?_
          refine AWp.seq ?_
          refine AWp.seq ?_
          obtain ⟨v64, hvK65, hsK91⟩ := bindS hsK91
          refine AWp.cutN [1, 3, 4, 22, 23, 24, 50] [] 0 (lb rfl) (fun τ => τ = { env := [(1, (.lbox [(.d (.int .i64 x1)), (.d (.list 3 x2))])), (3, (.d (.int .i64 v49))), (4, (.lbox [(.d (.int .i64 a51)), (.d (.int .i64 a52)), (.d (.int .i64 a53))])), (22, (.d (.list 3 x2))), (23, (.d (.int .i64 (A.len x2)))), (24, (.d (.int .i64 v49))), (50, (.d (.bool v64)))], heap := [], n := 65 }) ?_ ?_
          · skip
            refine AWp.region ?_
            obtain ⟨r58, e57, hvK65⟩ := bindS hvK65
            refine AOps.cc hT hA {} (by (repeat (cbv; simp only [c50])); first | done | cbv) (lb rfl) (R77w hA e57) rfl (.inl rfl) rfl rfl rfl (lb rfl) rfl rfl ?_
            rcases tf r58 with c59 | c59
            · replace hvK65 := cT c59 hvK65
              obtain ⟨r61, e60, hvK65⟩ := bindS hvK65
              refine AOps.cc hT hA {} (by (repeat (cbv; simp only [c50, c59])); first | done | cbv) (lb rfl) (R77w hA e60) rfl (.inl rfl) rfl rfl rfl (lb rfl) rfl rfl ?_
              rcases tf r61 with c62 | c62
              · replace hvK65 := cT c62 hvK65
                rcases tf (A.zlt a52 0) with c63 | c63
                · replace hvK65 := cT c63 hvK65
                  refine AOps.cd hT hA {} (by (repeat (cbv; simp only [c50, c59, c62, c63])); first | done | cbv) (lb rfl) ?_
                  cases soI hvK65
                  exact oNi ⟨rfl, (by first | (cbv; done) | ((repeat (cbv; simp only [c50, c59, c62, c63])); first | done | cbv))⟩
                · replace hvK65 := cF c63 hvK65
                  refine AOps.cd hT hA {} (by (repeat (cbv; simp only [c50, c59, c62, c63])); first | done | cbv) (lb rfl) ?_
                  cases soI hvK65
                  exact oNi ⟨rfl, (by first | (cbv; done) | ((repeat (cbv; simp only [c50, c59, c62, c63])); first | done | cbv))⟩
              · replace hvK65 := cF c62 hvK65
                refine AOps.cd hT hA {} (by (repeat (cbv; simp only [c50, c59, c62])); first | done | cbv) (lb rfl) ?_
                cases soI hvK65
                exact oNi ⟨rfl, (by first | (cbv; done) | ((repeat (cbv; simp only [c50, c59, c62])); first | done | cbv))⟩
            · replace hvK65 := cF c59 hvK65
              refine AOps.cd hT hA {} (by (repeat (cbv; simp only [c50, c59])); first | done | cbv) (lb rfl) ?_
              cases soI hvK65
              exact oNi ⟨rfl, (by first | (cbv; done) | ((repeat (cbv; simp only [c50, c59])); first | done | cbv))⟩
          · rintro _ rfl
            refine nT ?_
            rcases tf v64 with c66 | c66
            · replace hsK91 := cT c66 hsK91
              refine AWp.cdT rfl (by first | rfl | simp only [c66, Bool.not_true, Bool.not_false, cond_true, cond_false]) ?_
              refine AWp.seq ?_
              refine AWp.rg hT hA {} (by (repeat (cbv; simp only [c66])); first | done | cbv) (lb rfl) ?_
              refine nT ?_
              refine AWp.ret ?_
              refine rT ?_
              refine rB ?_
              refine rT ?_
              refine rT ?_
              refine exL hsK91 fun hx => ?_
              subst hx
              refine oxR ?_
              replace hkK91 := (eR (hK91 _ hkK91))
              refine rB ?_
              refine rT ?_
              cases soI hkK91
              exact ⟨rfl, rfl, rfl, lb rfl, _, rfl⟩
            · replace hsK91 := cF c66 hsK91
              refine AWp.cdF rfl (by first | rfl | simp only [c66, Bool.not_true, Bool.not_false, cond_true, cond_false]) ?_
              refine AWp.skip ?_
              refine nT ?_
              refine AWp.seq ?_
              obtain ⟨l67, e68, hsK91⟩ := bindS hsK91
              obtain ⟨f69, f70, f71, f72⟩ := slI e68
              refine AWp.rg hT hA {} (by (repeat (cbv; simp only [c66, f69, f70, f71, f72])); first | done | cbv) (lb rfl) ?_
              refine nT ?_
              refine AWp.block ?_
              obtain ⟨xK90, hxK90, K90, hK90, hkK90⟩ := bindK hsK91
              refine AWp.cutX 2 [1, 22, 23, 24] [] 0 (lb rfl) (fun τ => K90 (.inl ()) = some eK91 ∧ τ = { env := [(1, (.lbox [(.d (.int .i64 x1)), (.d (.list 3 x2))])), (22, (.d (.list 3 x2))), (23, (.d (.int .i64 (A.len x2)))), (24, (.d (.int .i64 v49)))], heap := [], n := 65 }) ?_ ?_
              · skip
                refine AWp.iter hxK90 [1, 4, 22, 23, 24, 54, 55, 56] [] 0 (lb rfl) (fun v81 => { env := [(1, (.lbox [(.d (.int .i64 x1)), (.d (.list 3 x2))])), (4, (.lbox [(.d (.int .i64 a51)), (.d (.int .i64 a52)), (.d (.int .i64 a53))])), (22, (.d (.list 3 x2))), (23, (.d (.int .i64 (A.len x2)))), (24, (.d (.int .i64 v49))), (54, (.d (.list 3 l67))), (55, (.d (.int .i64 (A.len l67)))), (56, (.d (.int .i64 v81)))], heap := [], n := 65 }) ⟨rfl, (by first | (cbv; done) | ((repeat (cbv; simp only [c66])); first | done | cbv))⟩ ?_
                rintro v81 eK90 hsK90
                dsimp only [R34L0] at hsK90
                refine AWp.seq ?_
                refine AWp.rg hT hA {} (by cbv) (lb rfl) ?_
                refine nT ?_
                refine AWp.seq ?_
                rcases tf (A.zlt v81 (A.len l67)) with c82 | c82
                · replace hsK90 := cT c82 hsK90
                  refine AWp.cdT rfl (by first | rfl | simp only [c82, Bool.not_true, Bool.not_false, cond_true, cond_false]) ?_
                  refine AWp.skip ?_
                  refine nT ?_
                  refine AWp.seq ?_
                  refine AWp.block ?_
                  refine AWp.seq ?_
                  obtain ⟨⟨a83, a84, a85⟩, e86, hsK90⟩ := bindS hsK90
                  obtain ⟨f87, f88⟩ := gtI e86
                  refine AWp.rg hT hA { tk := [59] } (by (repeat (cbv; simp only [c82, f87, f88])); first | done | cbv) (lb rfl) ?_
                  refine nT ?_
                  refine AWp.seq ?_
                  refine AWp.rg hT hA {} (by (repeat (cbv; simp only [c82])); first | done | cbv) (lb rfl) ?_
                  refine nT ?_
                  rcases tf (A.deq [(.int .i64 a51), (.int .i64 a52), (.int .i64 a53)] [(.int .i64 a83), (.int .i64 a84), (.int .i64 a85)]) with c89 | c89
                  · replace hsK90 := cT c89 hsK90
                    refine AWp.cdT rfl (by first | rfl | simp only [c82, c89, Bool.not_true, Bool.not_false, cond_true, cond_false]) ?_
                    refine AWp.seq ?_
                    refine AWp.rg hT hA {} (by (repeat (cbv; simp only [c82, c89])); first | done | cbv) (lb rfl) ?_
                    refine nT ?_
                    refine AWp.ret ?_
                    refine rB ?_
                    refine rT ?_
                    refine rT ?_
                    refine exL hsK90 fun hx => ?_
                    subst hx
                    refine oxR ?_
                    replace hkK90 := (eR (hK90 _ hkK90))
                    refine rB ?_
                    refine rB ?_
                    refine rT ?_
                    refine rT ?_
                    refine exL hkK90 fun hx => ?_
                    subst hx
                    refine oxR ?_
                    replace hkK91 := (eR (hK91 _ hkK91))
                    refine rB ?_
                    refine rT ?_
                    cases soI hkK91
                    exact ⟨rfl, rfl, rfl, lb rfl, _, rfl⟩
                  · replace hsK90 := cF c89 hsK90
                    refine AWp.cdF rfl (by first | rfl | simp only [c82, c89, Bool.not_true, Bool.not_false, cond_true, cond_false]) ?_
                    refine AWp.skip ?_
                    refine nB ?_
                    refine nT ?_
                    refine AWp.rg hT hA {} (by (repeat (cbv; simp only [c82, c89])); first | done | cbv) (lb rfl) ?_
                    exact nT ⟨_, (soI hsK90).symm, rfl, (by first | (cbv; done) | ((repeat (cbv; simp only [c82, c89])); first | done | cbv))⟩
                · replace hsK90 := cF c82 hsK90
                  refine AWp.cdF rfl (by first | rfl | simp only [c82, Bool.not_true, Bool.not_false, cond_true, cond_false]) ?_
                  refine AWp.exit ?_
                  refine xT ?_
                  refine xT ?_
                  refine exL hsK90 fun hx => ?_
                  subst hx
                  exact oxI ⟨rfl, hkK90, (by first | (cbv; done) | ((repeat (cbv; simp only [c82])); first | done | cbv))⟩
              · rintro _ ⟨hkK90, rfl⟩
                have hsK91 := (eL (hK90 _ hkK90))
                refine xB ?_
                refine nB ?_
                refine nT ?_
                refine AWp.rg hT hA {} (by cbv) (lb rfl) ?_
                exact nT ⟨_, (soI hsK91).symm, rfl, (by cbv)⟩
        · replace hsK91 := cF c50 hsK91
          refine AWp.cdF rfl (by first | rfl | simp only [c50, Bool.not_true, Bool.not_false, cond_true, cond_false]) ?_
          refine AWp.exit ?_
          refine xT ?_
          refine xT ?_
          refine exL hsK91 fun hx => ?_
          subst hx
          exact oxI ⟨rfl, hkK91, (by first | (cbv; done) | ((repeat (cbv; simp only [c50])); first | done | cbv))⟩
      · rintro _ ⟨hkK91, rfl⟩
        have h := (eL (hK91 _ hkK91))
        refine xB ?_
        refine nT ?_
        refine AWp.seq ?_
        refine AWp.rg hT hA {} (by cbv) (lb rfl) ?_
        refine nT ?_
        refine AWp.ret ?_
        cases soI h
        exact ⟨rfl, rfl, rfl, lb rfl, _, rfl⟩

theorem R126w {A : Ar} (hA : A = Ar.std) {x1 : Int} {v2 : Bool} (h : R126 A x1 = some v2) : ACall Try.prog 126 [(.d (.int .i64 x1))] [] (.d (.bool v2)) [] := by
  unfold R126 at h
  refine ACall.enter hT (fn := Try.f126) Try.func126 rfl (by decide) (by simp [Try.f126]) rfl rfl rfl rfl (lb rfl) ?_
  refine AWp.seq ?_
  refine AWp.rg hT hA {} (by cbv) (lb rfl) ?_
  refine nT ?_
  refine AWp.seq ?_
  refine AWp.rg hT hA { tk := [5] } (by cbv) (lb rfl) ?_
  refine nT ?_
  refine AWp.ret ?_
  cases soI h
  exact ⟨rfl, rfl, rfl, lb rfl, _, rfl⟩

theorem R114w {A : Ar} (hA : A = Ar.std) {x1 : Int} {x2 : Int} {v12 : Int} (h : R114 A x1 x2 = some v12) : ACall Try.prog 114 [(.d (.int .i64 x1)), (.d (.int .i64 x2))] [] (.d (.int .i64 v12)) [] := by
  unfold R114 at h
  refine ACall.enter hT (fn := Try.f114) Try.func114 rfl (by decide) (by simp [Try.f114]) rfl rfl rfl rfl (lb rfl) ?_
  refine AWp.seq ?_
  refine AWp.rg hT hA {} (by cbv) (lb rfl) ?_
  refine nT ?_
  refine AWp.seq ?_
  refine AWp.region ?_
  obtain ⟨r4, e3, h⟩ := bindS h
  refine AOps.cc hT hA {} (by cbv) (lb rfl) (R126w hA e3) rfl (.inl rfl) rfl rfl rfl (lb rfl) rfl rfl ?_
  refine AOps.cd hT hA {} (by cbv) (lb rfl) ?_
  refine nT ?_
  refine AWp.seq ?_
  refine AWp.region ?_
  obtain ⟨r6, e5, h⟩ := bindS h
  refine AOps.cc hT hA {} (by cbv) (lb rfl) (R126w hA e5) rfl (.inl rfl) rfl rfl rfl (lb rfl) rfl rfl ?_
  refine AOps.cd hT hA {} (by cbv) (lb rfl) ?_
  refine nT ?_
  refine AWp.seq ?_
  refine AWp.seq ?_
  refine AWp.rg hT hA {} (by cbv) (lb rfl) ?_
  refine nT ?_
  rcases tf r4 with c7 | c7
  · replace h := cT c7 h
    refine AWp.cdT rfl (by first | rfl | simp only [c7, Bool.not_true, Bool.not_false, cond_true, cond_false]) ?_
    refine AWp.seq ?_
    refine AWp.seq ?_
    refine AWp.rg hT hA {} (by (repeat (cbv; simp only [c7])); first | done | cbv) (lb rfl) ?_
    refine nT ?_
    rcases tf r6 with c8 | c8
    · replace h := cT c8 h
      refine AWp.cdT rfl (by first | rfl | simp only [c7, c8, Bool.not_true, Bool.not_false, cond_true, cond_false]) ?_
      refine AWp.seq ?_
      refine AWp.rg hT hA {} (by (repeat (cbv; simp only [c7, c8])); first | done | cbv) (lb rfl) ?_
      refine nT ?_
      refine AWp.ret ?_
      refine rT ?_
      refine rT ?_
      cases soI h
      exact ⟨rfl, rfl, rfl, lb rfl, _, rfl⟩
    · replace h := cF c8 h
      refine AWp.cdF rfl (by first | rfl | simp only [c7, c8, Bool.not_true, Bool.not_false, cond_true, cond_false]) ?_
      refine AWp.skip ?_
      refine nT ?_
      refine AWp.seq ?_
      refine AWp.rg hT hA {} (by (repeat (cbv; simp only [c7, c8])); first | done | cbv) (lb rfl) ?_
      refine nT ?_
      refine AWp.ret ?_
      refine rT ?_
      cases soI h
      exact ⟨rfl, rfl, rfl, lb rfl, _, rfl⟩
  · replace h := cF c7 h
    refine AWp.cdF rfl (by first | rfl | simp only [c7, Bool.not_true, Bool.not_false, cond_true, cond_false]) ?_
    refine AWp.skip ?_
    refine nT ?_
    refine AWp.seq ?_
    refine AWp.seq ?_
    refine AWp.rg hT hA {} (by (repeat (cbv; simp only [c7])); first | done | cbv) (lb rfl) ?_
    refine nT ?_
    rcases tf r6 with c9 | c9
    · replace h := cT c9 h
      refine AWp.cdT rfl (by first | rfl | simp only [c7, c9, Bool.not_true, Bool.not_false, cond_true, cond_false]) ?_
      refine AWp.seq ?_
      refine AWp.rg hT hA {} (by (repeat (cbv; simp only [c7, c9])); first | done | cbv) (lb rfl) ?_
      refine nT ?_
      refine AWp.ret ?_
      refine rT ?_
      cases soI h
      exact ⟨rfl, rfl, rfl, lb rfl, _, rfl⟩
    · replace h := cF c9 h
      refine AWp.cdF rfl (by first | rfl | simp only [c7, c9, Bool.not_true, Bool.not_false, cond_true, cond_false]) ?_
      refine AWp.skip ?_
      refine nT ?_
      refine AWp.seq ?_
      refine AWp.seq ?_
      refine AWp.rg hT hA {} (by (repeat (cbv; simp only [c7, c9])); first | done | cbv) (lb rfl) ?_
      refine nT ?_
      rcases tf (A.zlt x1 x2) with c10 | c10
      · replace h := cT c10 h
        refine AWp.cdT rfl (by first | rfl | simp only [c7, c9, c10, Bool.not_true, Bool.not_false, cond_true, cond_false]) ?_
        refine AWp.seq ?_
        refine AWp.rg hT hA {} (by (repeat (cbv; simp only [c7, c9, c10])); first | done | cbv) (lb rfl) ?_
        refine nT ?_
        refine AWp.ret ?_
        refine rT ?_
        cases soI h
        exact ⟨rfl, rfl, rfl, lb rfl, _, rfl⟩
      · replace h := cF c10 h
        refine AWp.cdF rfl (by first | rfl | simp only [c7, c9, c10, Bool.not_true, Bool.not_false, cond_true, cond_false]) ?_
        refine AWp.skip ?_
        refine nT ?_
        refine AWp.seq ?_
        refine AWp.seq ?_
        refine AWp.rg hT hA {} (by (repeat (cbv; simp only [c7, c9, c10])); first | done | cbv) (lb rfl) ?_
        refine nT ?_
        rcases tf (A.zlt x2 x1) with c11 | c11
        · replace h := cT c11 h
          refine AWp.cdT rfl (by first | rfl | simp only [c7, c9, c10, c11, Bool.not_true, Bool.not_false, cond_true, cond_false]) ?_
          refine AWp.seq ?_
          refine AWp.rg hT hA {} (by (repeat (cbv; simp only [c7, c9, c10, c11])); first | done | cbv) (lb rfl) ?_
          refine nT ?_
          refine AWp.ret ?_
          refine rT ?_
          cases soI h
          exact ⟨rfl, rfl, rfl, lb rfl, _, rfl⟩
        · replace h := cF c11 h
          refine AWp.cdF rfl (by first | rfl | simp only [c7, c9, c10, c11, Bool.not_true, Bool.not_false, cond_true, cond_false]) ?_
          refine AWp.skip ?_
          refine nT ?_
          refine AWp.seq ?_
          refine AWp.rg hT hA {} (by (repeat (cbv; simp only [c7, c9, c10, c11])); first | done | cbv) (lb rfl) ?_
          refine nT ?_
          refine AWp.ret ?_
          cases soI h
          exact ⟨rfl, rfl, rfl, lb rfl, _, rfl⟩

theorem R42w {A : Ar} (hA : A = Ar.std) {x1 : List D} {v32 : Bool} (h : R42 A x1 = some v32) : ACall Try.prog 42 [(.d (.list 2 x1))] [] (.d (.bool v32)) [] := by
  unfold R42 at h
  refine ACall.enter hT (fn := Try.f42) Try.func42 rfl (by decide) (by simp [Try.f42]) rfl rfl rfl rfl (lb rfl) ?_
  refine AWp.seq ?_
  refine AWp.rg hT hA {} (by cbv) (lb rfl) ?_
  refine nT ?_
  refine AWp.seq ?_
  refine AWp.seq ?_
  refine AWp.rg hT hA {} (by cbv) (lb rfl) ?_
  refine nT ?_
  refine AWp.block ?_
  obtain ⟨xK31, hxK31, K31, hK31, hkK31⟩ := bindK h
  refine AWp.cutX 0 [] [] 0 (lb rfl) (fun τ => K31 (.inl ()) = some v32 ∧ τ = { env := [], heap := [], n := 19 }) ?_ ?_
  · skip
    refine AWp.iter hxK31 [5, 6, 7] [] 0 (lb rfl) (fun v16 => { env := [(5, (.d (.list 2 x1))), (6, (.d (.int .i64 (A.len x1)))), (7, (.d (.int .i64 v16)))], heap := [], n := 19 }) ⟨rfl, (by cbv)⟩ ?_
    rintro v16 eK31 hsK31
    dsimp only [R42L0] at hsK31
    refine AWp.seq ?_
    refine AWp.rg hT hA {} (by cbv) (lb rfl) ?_
    refine nT ?_
    refine AWp.seq ?_
    rcases tf (A.zlt v16 (A.len x1)) with c17 | c17
    · replace hsK31 := cT c17 hsK31
      refine AWp.cdT rfl (by first | rfl | simp only [c17, Bool.not_true, Bool.not_false, cond_true, cond_false]) ?_
      refine AWp.skip ?_
      refine nT ?_
      refine AWp.seq ?_
      refine AWp.block ?_
      refine AWp.seq ?_
      obtain ⟨⟨a18, a19⟩, e20, hsK31⟩ := bindS hsK31
      obtain ⟨f21, f22⟩ := gtI e20
      refine AWp.rg hT hA { tk := [10] } (by (repeat (cbv; simp only [c17, f21, f22])); first | done | cbv) (lb rfl) ?_
      refine nT ?_
      refine AWp.seq ?_
      obtain ⟨v28, hvK29, hsK31⟩ := bindS hsK31
      refine AWp.cutN [5, 6, 7, 17] [] 0 (lb rfl) (fun τ => τ = { env := [(5, (.d (.list 2 x1))), (6, (.d (.int .i64 (A.len x1)))), (7, (.d (.int .i64 v16))), (17, (.d (.bool v28)))], heap := [], n := 19 }) ?_ ?_
      · skip
        refine AWp.region ?_
        obtain ⟨r24, e23, hvK29⟩ := bindS hvK29
        refine AOps.cc hT hA {} (by (repeat (cbv; simp only [c17])); first | done | cbv) (lb rfl) (R16w hA e23) rfl (.inl rfl) rfl rfl rfl (lb rfl) rfl rfl ?_
        rcases tf r24 with c25 | c25
        · replace hvK29 := cT c25 hvK29
          refine AOps.cd hT hA {} (by (repeat (cbv; simp only [c17, c25])); first | done | cbv) (lb rfl) ?_
          cases soI hvK29
          exact oNi ⟨rfl, (by first | (cbv; done) | ((repeat (cbv; simp only [c17, c25])); first | done | cbv))⟩
        · replace hvK29 := cF c25 hvK29
          obtain ⟨r27, e26, hvK29⟩ := bindS hvK29
          refine AOps.cc hT hA {} (by (repeat (cbv; simp only [c17, c25])); first | done | cbv) (lb rfl) (R34w hA e26) rfl (.inl rfl) rfl rfl rfl (lb rfl) rfl rfl ?_
          refine AOps.cd hT hA {} (by (repeat (cbv; simp only [c17, c25])); first | done | cbv) (lb rfl) ?_
          cases soI hvK29
          exact oNi ⟨rfl, (by first | (cbv; done) | ((repeat (cbv; simp only [c17, c25])); first | done | cbv))⟩
      · rintro _ rfl
        refine nT ?_
        rcases tf v28 with c30 | c30
        · replace hsK31 := cT c30 hsK31
          refine AWp.cdT rfl (by first | rfl | simp only [c30, Bool.not_true, Bool.not_false, cond_true, cond_false]) ?_
          refine AWp.seq ?_
          refine AWp.rg hT hA {} (by (repeat (cbv; simp only [c30])); first | done | cbv) (lb rfl) ?_
          refine nT ?_
          refine AWp.ret ?_
          refine rB ?_
          refine rT ?_
          refine rT ?_
          refine exL hsK31 fun hx => ?_
          subst hx
          refine oxR ?_
          replace hkK31 := (eR (hK31 _ hkK31))
          refine rB ?_
          refine rT ?_
          cases soI hkK31
          exact ⟨rfl, rfl, rfl, lb rfl, _, rfl⟩
        · replace hsK31 := cF c30 hsK31
          refine AWp.cdF rfl (by first | rfl | simp only [c30, Bool.not_true, Bool.not_false, cond_true, cond_false]) ?_
          refine AWp.skip ?_
          refine nB ?_
          refine nT ?_
          refine AWp.rg hT hA {} (by (repeat (cbv; simp only [c30])); first | done | cbv) (lb rfl) ?_
          exact nT ⟨_, (soI hsK31).symm, rfl, (by first | (cbv; done) | ((repeat (cbv; simp only [c30])); first | done | cbv))⟩
    · replace hsK31 := cF c17 hsK31
      refine AWp.cdF rfl (by first | rfl | simp only [c17, Bool.not_true, Bool.not_false, cond_true, cond_false]) ?_
      refine AWp.exit ?_
      refine xT ?_
      refine xT ?_
      refine exL hsK31 fun hx => ?_
      subst hx
      exact oxI ⟨rfl, hkK31, (by first | (cbv; done) | ((repeat (cbv; simp only [c17])); first | done | cbv))⟩
  · rintro _ ⟨hkK31, rfl⟩
    have h := (eL (hK31 _ hkK31))
    refine xB ?_
    refine nT ?_
    refine AWp.seq ?_
    refine AWp.rg hT hA {} (by cbv) (lb rfl) ?_
    refine nT ?_
    refine AWp.ret ?_
    cases soI h
    exact ⟨rfl, rfl, rfl, lb rfl, _, rfl⟩

theorem R109w {A : Ar} (hA : A = Ar.std) {x1 : List D} {x2 : Int} {x3 : Int} {x4 : Int} {v24 : Int} (h : R109 A x1 x2 x3 x4 = some v24) : ACall Try.prog 109 [(.d (.list 3 x1)), (.d (.agg [(.int .i64 x2), (.int .i64 x3), (.int .i64 x4)]))] [] (.d (.int .i64 v24)) [] := by
  unfold R109 at h
  refine ACall.enter hT (fn := Try.f109) Try.func109 rfl (by decide) (by simp [Try.f109]) rfl rfl rfl rfl (lb rfl) ?_
  refine AWp.seq ?_
  refine AWp.rg hT hA {} (by cbv) (lb rfl) ?_
  refine nT ?_
  refine AWp.seq ?_
  refine AWp.seq ?_
  refine AWp.rg hT hA {} (by cbv) (lb rfl) ?_
  refine nT ?_
  refine AWp.block ?_
  obtain ⟨xK23, hxK23, K23, hK23, hkK23⟩ := bindK h
  refine AWp.cutX 0 [] [] 0 (lb rfl) (fun τ => K23 (.inl ()) = some v24 ∧ τ = { env := [], heap := [], n := 19 }) ?_ ?_
  · skip
    refine AWp.iter hxK23 [0, 3, 7, 8] [] 0 (lb rfl) (fun v13 => { env := [(0, (.d (.list 3 x1))), (3, (.lbox [(.d (.int .i64 x2)), (.d (.int .i64 x3)), (.d (.int .i64 x4))])), (7, (.d (.int .i64 (A.len x1)))), (8, (.d (.int .i64 v13)))], heap := [], n := 19 }) ⟨rfl, (by cbv)⟩ ?_
    rintro v13 eK23 hsK23
    dsimp only [R109L0] at hsK23
    refine AWp.seq ?_
    refine AWp.rg hT hA {} (by cbv) (lb rfl) ?_
    refine nT ?_
    refine AWp.seq ?_
    rcases tf (A.zlt v13 (A.len x1)) with c14 | c14
    · replace hsK23 := cT c14 hsK23
      refine AWp.cdT rfl (by first | rfl | simp only [c14, Bool.not_true, Bool.not_false, cond_true, cond_false]) ?_
      refine AWp.skip ?_
      refine nT ?_
      refine AWp.seq ?_
      refine AWp.block ?_
      refine AWp.seq ?_
      refine AWp.rg hT hA { tk := [8, 10] } (by (repeat (cbv; simp only [c14])); first | done | cbv) (lb rfl) ?_
      refine nT ?_
      refine AWp.seq ?_
      obtain ⟨⟨a15, a16, a17⟩, e18, hsK23⟩ := bindS hsK23
      obtain ⟨f19, f20⟩ := gtI e18
      refine AWp.rd hT hA {} rfl (by (repeat (cbv; simp only [c14, f19, f20])); first | done | cbv) (by kernel_rfl) (lb rfl) ?_
      refine nT ?_
      rcases tf (A.deq [(.int .i64 x2), (.int .i64 x3), (.int .i64 x4)] [(.int .i64 a15), (.int .i64 a16), (.int .i64 a17)]) with c21 | c21
      · replace hsK23 := cT c21 hsK23
        refine AWp.cdT rfl (by first | rfl | simp only [c14, c21, Bool.not_true, Bool.not_false, cond_true, cond_false]) ?_
        refine AWp.seq ?_
        refine AWp.rg hT hA { tk := [5, 17] } (by (repeat (cbv; simp only [c14, c21])); first | done | cbv) (lb rfl) ?_
        refine nT ?_
        refine AWp.ret ?_
        refine rB ?_
        refine rT ?_
        refine rT ?_
        refine exL hsK23 fun hx => ?_
        subst hx
        refine oxR ?_
        replace hkK23 := (eR (hK23 _ hkK23))
        refine rB ?_
        refine rT ?_
        cases soI hkK23
        exact ⟨rfl, rfl, rfl, lb rfl, _, rfl⟩
      · replace hsK23 := cF c21 hsK23
        refine AWp.cdF rfl (by first | rfl | simp only [c14, c21, Bool.not_true, Bool.not_false, cond_true, cond_false]) ?_
        refine AWp.skip ?_
        refine nB ?_
        refine nT ?_
        refine AWp.rg hT hA { tk := [18] } (by (repeat (cbv; simp only [c14, c21])); first | done | cbv) (lb rfl) ?_
        exact nT ⟨_, (soI hsK23).symm, rfl, (by first | (cbv; done) | ((repeat (cbv; simp only [c14, c21])); first | done | cbv))⟩
    · replace hsK23 := cF c14 hsK23
      refine AWp.cdF rfl (by first | rfl | simp only [c14, Bool.not_true, Bool.not_false, cond_true, cond_false]) ?_
      refine AWp.exit ?_
      refine xT ?_
      refine xT ?_
      refine exL hsK23 fun hx => ?_
      subst hx
      exact oxI ⟨rfl, hkK23, (by first | (cbv; done) | ((repeat (cbv; simp only [c14])); first | done | cbv))⟩
  · rintro _ ⟨hkK23, rfl⟩
    have h := (eL (hK23 _ hkK23))
    refine xB ?_
    refine nT ?_
    refine AWp.seq ?_
    refine AWp.rg hT hA {} (by cbv) (lb rfl) ?_
    refine nT ?_
    refine AWp.ret ?_
    cases soI h
    exact ⟨rfl, rfl, rfl, lb rfl, _, rfl⟩

theorem R89w {A : Ar} (hA : A = Ar.std) {x1 : List D} {x2 : Int} {x3 : Int} {x4 : Int} {v7 : Bool} (h : R89 A x1 x2 x3 x4 = some v7) : ACall Try.prog 89 [(.d (.list 3 x1)), (.d (.agg [(.int .i64 x2), (.int .i64 x3), (.int .i64 x4)]))] [] (.d (.bool v7)) [] := by
  unfold R89 at h
  refine ACall.enter hT (fn := Try.f89) Try.func89 rfl (by decide) (by simp [Try.f89]) rfl rfl rfl rfl (lb rfl) ?_
  refine AWp.seq ?_
  refine AWp.rg hT hA {} (by cbv) (lb rfl) ?_
  refine nT ?_
  refine AWp.seq ?_
  refine AWp.region ?_
  obtain ⟨r6, e5, h⟩ := bindS h
  refine AOps.cc hT hA { tk := [8] } (by cbv) (lb rfl) (R109w hA e5) rfl (.inl rfl) rfl rfl rfl (lb rfl) rfl rfl ?_
  refine AOps.cd hT hA { tk := [8] } (by cbv) (lb rfl) ?_
  refine nT ?_
  refine AWp.ret ?_
  cases soI h
  exact ⟨rfl, rfl, rfl, lb rfl, _, rfl⟩

theorem R99w {A : Ar} (hA : A = Ar.std) {x1 : List D} {x2 : Int} {x3 : Int} {x4 : List D} {x5 : List D} {v138 : Bool} (h : R99 A x1 x2 x3 x4 x5 = some v138) : ACall Try.prog 99 [(.d (.agg x1)), (.ptr 0 0), (.ptr 1 0), (.d (.int .i64 x2)), (.d (.int .i64 x3))] [(.arr 1 x4), (.arr 1 x5)] (.d (.bool v138)) [(.arr 1 x4), (.arr 1 x5)] := by
  unfold R99 at h
  refine ACall.enter hT (fn := Try.f99) Try.func99 rfl (by decide) (by simp [Try.f99]) rfl rfl rfl rfl (lb rfl) ?_
  refine AWp.seq ?_
  obtain ⟨_, e7, h⟩ := bindS h
  have f6 := ckI e7
  refine AWp.rg hT hA { arr := [5] } (by (repeat (cbv; simp only [f6])); first | done | cbv) (lb rfl) ?_
  refine nT ?_
  refine AWp.seq ?_
  refine AWp.seq ?_
  refine AWp.rg hT hA {} (by cbv) (lb rfl) ?_
  refine nT ?_
  refine AWp.block ?_
  obtain ⟨xK137, hxK137, K137, hK137, hkK137⟩ := bindK h
  refine AWp.cutX 0 [] [] 3 (lb rfl) (fun τ => K137 (.inl ()) = some v138 ∧ τ = { env := [], heap := [(.arr 1 x4), (.arr 1 x5), (.arr 1 x1)], n := 46 }) ?_ ?_
  · skip
    refine AWp.iter hxK137 [1, 2, 3, 4, 5, 14] [] 3 (lb rfl) (fun v72 => { env := [(1, (.ptr 0 0)), (2, (.ptr 1 0)), (3, (.d (.int .i64 x2))), (4, (.d (.int .i64 x3))), (5, (.ptr 2 0)), (14, (.d (.int .i64 v72)))], heap := [(.arr 1 x4), (.arr 1 x5), (.arr 1 x1)], n := 46 }) ⟨rfl, (by cbv)⟩ ?_
    rintro v72 eK137 hsK137
    dsimp only [R99L1] at hsK137
    refine AWp.seq ?_
    refine AWp.rg hT hA {} (by cbv) (lb rfl) ?_
    refine nT ?_
    refine AWp.seq ?_
    rcases tf (A.zlt v72 4) with c73 | c73
    · replace hsK137 := cT c73 hsK137
      refine AWp.cdT rfl (by first | rfl | simp only [c73, Bool.not_true, Bool.not_false, cond_true, cond_false]) ?_
      refine AWp.skip ?_
      refine nT ?_
      refine AWp.seq ?_
      refine AWp.block ?_
      refine AWp.seq ?_
      refine AWp.rg hT hA {} (by (repeat (cbv; simp only [c73])); first | done | cbv) (lb rfl) ?_
      refine nT ?_
      refine AWp.seq ?_
      refine AWp.region ?_
      obtain ⟨_, e74, hsK137⟩ := bindS hsK137
      have f76 := ckI e74
      obtain ⟨_, e75, hsK137⟩ := bindS hsK137
      have f77 := ckI e75
      obtain ⟨_, e78, hsK137⟩ := bindS hsK137
      have f80 := ckI e78
      obtain ⟨_, e79, hsK137⟩ := bindS hsK137
      have f81 := ckI e79
      obtain ⟨a82, e83, hsK137⟩ := bindS hsK137
      have f84 := gcI e83
      obtain ⟨r86, e85, hsK137⟩ := bindS hsK137
      refine AOps.cc hT hA {} (by (repeat (cbv; simp only [c73, f76, f77, f80, f81, f84])); first | done | cbv) (lb rfl) (R76w hA e85) rfl (.inr rfl) rfl rfl rfl (lb rfl) rfl rfl ?_
      refine AOps.cd hT hA {} (by (repeat (cbv; simp only [c73, f76, f77, f80, f81, f84])); first | done | cbv) (lb rfl) ?_
      refine nT ?_
      refine AWp.block ?_
      obtain ⟨xK136, hxK136, K136, hK136, hkK136⟩ := bindK hsK137
      refine AWp.cutX 2 [1, 2, 3, 4, 5, 14] [] 3 (lb rfl) (fun τ => K136 (.inl ()) = some eK137 ∧ τ = { env := [(1, (.ptr 0 0)), (2, (.ptr 1 0)), (3, (.d (.int .i64 x2))), (4, (.d (.int .i64 x3))), (5, (.ptr 2 0)), (14, (.d (.int .i64 v72)))], heap := [(.arr 1 x4), (.arr 1 x5), (.arr 1 x1)], n := 46 }) ?_ ?_
      · skip
        refine AWp.iter hxK136 [1, 2, 3, 4, 5, 11, 14, 25, 26, 27] [] 3 (lb rfl) (fun v111 => { env := [(1, (.ptr 0 0)), (2, (.ptr 1 0)), (3, (.d (.int .i64 x2))), (4, (.d (.int .i64 x3))), (5, (.ptr 2 0)), (11, (.d (.int .i64 v72))), (14, (.d (.int .i64 v72))), (25, (.own 1 r86)), (26, (.d (.int .i64 (A.len r86)))), (27, (.d (.int .i64 v111)))], heap := [(.arr 1 x4), (.arr 1 x5), (.arr 1 x1)], n := 46 }) ⟨rfl, (by first | (cbv; done) | ((repeat (cbv; simp only [c73])); first | done | cbv))⟩ ?_
        rintro v111 eK136 hsK136
        dsimp only [R99L0] at hsK136
        refine AWp.seq ?_
        refine AWp.rg hT hA {} (by cbv) (lb rfl) ?_
        refine nT ?_
        refine AWp.seq ?_
        rcases tf (A.zlt v111 (A.len r86)) with c112 | c112
        · replace hsK136 := cT c112 hsK136
          refine AWp.cdT rfl (by first | rfl | simp only [c112, Bool.not_true, Bool.not_false, cond_true, cond_false]) ?_
          refine AWp.skip ?_
          refine nT ?_
          refine AWp.seq ?_
          refine AWp.block ?_
          refine AWp.seq ?_
          obtain ⟨a113, e114, hsK136⟩ := bindS hsK136
          obtain ⟨f115, f116⟩ := gtI e114
          refine AWp.rg hT hA {} (by (repeat (cbv; simp only [c112, f115, f116])); first | done | cbv) (lb rfl) ?_
          refine nT ?_
          refine AWp.seq ?_
          obtain ⟨_, e117, hsK136⟩ := bindS hsK136
          have f119 := ckI e117
          obtain ⟨_, e118, hsK136⟩ := bindS hsK136
          have f120 := ckI e118
          obtain ⟨a121, e122, hsK136⟩ := bindS hsK136
          have f123 := gcI e122
          obtain ⟨_, e124, hsK136⟩ := bindS hsK136
          have f126 := ckI e124
          obtain ⟨_, e125, hsK136⟩ := bindS hsK136
          have f127 := ckI e125
          obtain ⟨_, e128, hsK136⟩ := bindS hsK136
          have f130 := ckI e128
          obtain ⟨_, e129, hsK136⟩ := bindS hsK136
          have f131 := ckI e129
          obtain ⟨a132, e133, hsK136⟩ := bindS hsK136
          have f134 := gcI e133
          refine AWp.rd hT hA {} rfl (by (repeat (cbv; simp only [c112, f119, f120, f123, f126, f127, f130, f131, f134])); first | done | cbv) (by kernel_rfl) (lb rfl) ?_
          refine nT ?_
          rcases tf (A.zeq (A.bits .and .u8 a121 a132) 0) with c135 | c135
          · replace hsK136 := cT c135 hsK136
            refine AWp.cdT rfl (by first | rfl | simp only [c112, c135, Bool.not_true, Bool.not_false, cond_true, cond_false]) ?_
            refine AWp.seq ?_
            refine AWp.rg hT hA {} (by (repeat (cbv; simp only [c112, c135])); first | done | cbv) (lb rfl) ?_
            refine nT ?_
            refine AWp.ret ?_
            refine rB ?_
            refine rT ?_
            refine rT ?_
            refine exL hsK136 fun hx => ?_
            subst hx
            refine oxR ?_
            replace hkK136 := (eR (hK136 _ hkK136))
            refine rB ?_
            refine rB ?_
            refine rT ?_
            refine rT ?_
            refine exL hkK136 fun hx => ?_
            subst hx
            refine oxR ?_
            replace hkK137 := (eR (hK137 _ hkK137))
            refine rB ?_
            refine rT ?_
            cases soI hkK137
            exact ⟨rfl, rfl, rfl, lb rfl, _, rfl⟩
          · replace hsK136 := cF c135 hsK136
            refine AWp.cdF rfl (by first | rfl | simp only [c112, c135, Bool.not_true, Bool.not_false, cond_true, cond_false]) ?_
            refine AWp.skip ?_
            refine nB ?_
            refine nT ?_
            refine AWp.rg hT hA {} (by (repeat (cbv; simp only [c112, c135])); first | done | cbv) (lb rfl) ?_
            exact nT ⟨_, (soI hsK136).symm, rfl, (by first | (cbv; done) | ((repeat (cbv; simp only [c112, c135])); first | done | cbv))⟩
        · replace hsK136 := cF c112 hsK136
          refine AWp.cdF rfl (by first | rfl | simp only [c112, Bool.not_true, Bool.not_false, cond_true, cond_false]) ?_
          refine AWp.exit ?_
          refine xT ?_
          refine xT ?_
          refine exL hsK136 fun hx => ?_
          subst hx
          exact oxI ⟨rfl, hkK136, (by first | (cbv; done) | ((repeat (cbv; simp only [c112])); first | done | cbv))⟩
      · rintro _ ⟨hkK136, rfl⟩
        have hsK137 := (eL (hK136 _ hkK136))
        refine xB ?_
        refine nB ?_
        refine nT ?_
        refine AWp.rg hT hA {} (by cbv) (lb rfl) ?_
        exact nT ⟨_, (soI hsK137).symm, rfl, (by cbv)⟩
    · replace hsK137 := cF c73 hsK137
      refine AWp.cdF rfl (by first | rfl | simp only [c73, Bool.not_true, Bool.not_false, cond_true, cond_false]) ?_
      refine AWp.exit ?_
      refine xT ?_
      refine xT ?_
      refine exL hsK137 fun hx => ?_
      subst hx
      exact oxI ⟨rfl, hkK137, (by first | (cbv; done) | ((repeat (cbv; simp only [c73])); first | done | cbv))⟩
  · rintro _ ⟨hkK137, rfl⟩
    have h := (eL (hK137 _ hkK137))
    refine xB ?_
    refine nT ?_
    refine AWp.seq ?_
    refine AWp.rg hT hA {} (by cbv) (lb rfl) ?_
    refine nT ?_
    refine AWp.ret ?_
    cases soI h
    exact ⟨rfl, rfl, rfl, lb rfl, _, rfl⟩

theorem R90w {A : Ar} (hA : A = Ar.std) {x1 : List D} {x2 : List D} {v382 : List D} (h : R90 A x1 x2 = some v382) : ACall Try.prog 90 [(.ptr 0 0), (.ptr 1 0)] [(.arr 1 x1), (.arr 1 x2)] (.d (.agg v382)) [(.arr 1 x1), (.arr 1 x2)] := by
  unfold R90 at h
  refine ACall.enter hT (fn := Try.f90) Try.func90 rfl (by decide) (by simp [Try.f90]) rfl rfl rfl rfl (lb rfl) ?_
  refine AWp.seq ?_
  refine AWp.rg hT hA { arr := [4] } (by cbv) (lb rfl) ?_
  refine nT ?_
  refine AWp.seq ?_
  refine AWp.rg hT hA { arr := [5] } (by cbv) (lb rfl) ?_
  refine nT ?_
  refine AWp.seq ?_
  refine AWp.seq ?_
  obtain ⟨a3, e4, h⟩ := bindS h
  have f5 := gcI e4
  refine AWp.rg hT hA {} (by (repeat (cbv; simp only [f5])); first | done | cbv) (lb rfl) ?_
  refine nT ?_
  refine AWp.block ?_
  obtain ⟨xK33, hxK33, K33, hK33, hkK33⟩ := bindK h
  refine AWp.cutX 0 [0, 1, 4, 5] [] 4 (lb rfl) (fun τ => ∃ v32, K33 v32 = some v382 ∧ τ = { env := [(0, (.ptr 0 0)), (1, (.ptr 1 0)), (4, (.ptr 2 0)), (5, (.ptr 3 0))], heap := [(.arr 1 x1), (.arr 1 x2), (.arr 1 (A.rep (Int.ofNat 6) (.int .u8 0))), (.arr 1 v32)], n := 64 }) ?_ ?_
  · skip
    refine AWp.iter hxK33 [0, 1, 4, 5, 15, 16] [] 4 (lb rfl) (fun (v18, v19) => { env := [(0, (.ptr 0 0)), (1, (.ptr 1 0)), (4, (.ptr 2 0)), (5, (.ptr 3 0)), (15, (.d (.int .i64 a3))), (16, (.d (.int .i64 v18)))], heap := [(.arr 1 x1), (.arr 1 x2), (.arr 1 (A.rep (Int.ofNat 6) (.int .u8 0))), (.arr 1 v19)], n := 64 }) ⟨rfl, (by cbv)⟩ ?_
    rintro ⟨v18, v19⟩ eK33 hsK33
    dsimp only [R90L0] at hsK33
    refine AWp.seq ?_
    refine AWp.rg hT hA {} (by cbv) (lb rfl) ?_
    refine nT ?_
    refine AWp.seq ?_
    rcases tf (A.zlt v18 a3) with c20 | c20
    · replace hsK33 := cT c20 hsK33
      refine AWp.cdT rfl (by first | rfl | simp only [c20, Bool.not_true, Bool.not_false, cond_true, cond_false]) ?_
      refine AWp.skip ?_
      refine nT ?_
      refine AWp.seq ?_
      refine AWp.block ?_
      refine AWp.seq ?_
      refine AWp.rg hT hA {} (by (repeat (cbv; simp only [c20])); first | done | cbv) (lb rfl) ?_
      refine nT ?_
      obtain ⟨a21, e22, hsK33⟩ := bindS hsK33
      have f23 := gcI e22
      obtain ⟨_, e24, hsK33⟩ := bindS hsK33
      have f25 := nkI e24
      obtain ⟨_, e26, hsK33⟩ := bindS hsK33
      have f28 := ckI e26
      obtain ⟨_, e27, hsK33⟩ := bindS hsK33
      have f29 := ckI e27
      obtain ⟨d30, e31, hsK33⟩ := bindS hsK33
      refine AWp.rg hT hA { tk := [26] } (by (repeat (cbv; simp only [c20, f23, f25, f28, f29, e31])); first | done | cbv) (lb rfl) ?_
      refine nB ?_
      refine nT ?_
      refine AWp.rg hT hA {} (by (repeat (cbv; simp only [c20])); first | done | cbv) (lb rfl) ?_
      exact nT ⟨_, (soI hsK33).symm, rfl, (by first | (cbv; done) | ((repeat (cbv; simp only [c20])); first | done | cbv))⟩
    · replace hsK33 := cF c20 hsK33
      refine AWp.cdF rfl (by first | rfl | simp only [c20, Bool.not_true, Bool.not_false, cond_true, cond_false]) ?_
      refine AWp.exit ?_
      refine xT ?_
      refine xT ?_
      refine exL hsK33 fun hx => ?_
      subst hx
      exact oxI ⟨rfl, _, hkK33, (by first | (cbv; done) | ((repeat (cbv; simp only [c20])); first | done | cbv))⟩
  · rintro _ ⟨v32, hkK33, rfl⟩
    have h := (hK33 _ hkK33)
    refine xB ?_
    refine nT ?_
    refine AWp.seq ?_
    refine AWp.seq ?_
    refine AWp.rg hT hA {} (by cbv) (lb rfl) ?_
    refine nT ?_
    refine AWp.block ?_
    obtain ⟨xK368, hxK368, K368, hK368, hkK368⟩ := bindK h
    refine AWp.cutX 2 [4, 5] [] 4 (lb rfl) (fun τ => ∃ v367, K368 v367 = some v382 ∧ τ = { env := [(4, (.ptr 2 0)), (5, (.ptr 3 0))], heap := [(.arr 1 x1), (.arr 1 x2), (.arr 1 (A.rep (Int.ofNat 6) (.int .u8 0))), (.arr 1 v367)], n := 64 }) ?_ ?_
    · skip
      refine AWp.iter hxK368 [0, 1, 4, 5, 7] [] 4 (lb rfl) (fun (v199, v200) => { env := [(0, (.ptr 0 0)), (1, (.ptr 1 0)), (4, (.ptr 2 0)), (5, (.ptr 3 0)), (7, (.d (.bool v199)))], heap := [(.arr 1 x1), (.arr 1 x2), (.arr 1 (A.rep (Int.ofNat 6) (.int .u8 0))), (.arr 1 v200)], n := 64 }) ⟨rfl, (by cbv)⟩ ?_
      rintro ⟨v199, v200⟩ eK368 hsK368
      dsimp only [R90L3] at hsK368
      refine AWp.seq ?_
      refine AWp.seq ?_
      refine AWp.rg hT hA {} (by cbv) (lb rfl) ?_
      refine nT ?_
      rcases tf v199 with c201 | c201
      · replace hsK368 := cT c201 hsK368
        refine AWp.cdT rfl (by first | rfl | simp only [c201, Bool.not_true, Bool.not_false, cond_true, cond_false]) ?_
        refine AWp.skip ?_
        refine nT ?_
        refine AWp.block ?_
        refine AWp.seq ?_
        refine AWp.rg hT hA {} (by (repeat (cbv; simp only [c201])); first | done | cbv) (lb rfl) ?_
        refine nT ?_
        refine AWp.seq ?_
        obtain ⟨a202, e203, hsK368⟩ := bindS hsK368
        have f204 := gcI e203
        refine AWp.rg hT hA {} (by (repeat (cbv; simp only [c201, f204])); first | done | cbv) (lb rfl) ?_
        refine nT ?_
        refine AWp.block ?_
        obtain ⟨xK366, hxK366, K366, hK366, hkK366⟩ := bindK hsK368
        refine AWp.cutX 4 [0, 1, 4, 5, 7] [] 4 (lb rfl) (fun τ => ∃ v364 v365, K366 (v364, v365) = some eK368 ∧ τ = { env := [(0, (.ptr 0 0)), (1, (.ptr 1 0)), (4, (.ptr 2 0)), (5, (.ptr 3 0)), (7, (.d (.bool v364)))], heap := [(.arr 1 x1), (.arr 1 x2), (.arr 1 (A.rep (Int.ofNat 6) (.int .u8 0))), (.arr 1 v365)], n := 64 }) ?_ ?_
        · skip
          refine AWp.iter hxK366 [0, 1, 4, 5, 7, 34, 35] [] 4 (lb rfl) (fun (v283, v284, v285) => { env := [(0, (.ptr 0 0)), (1, (.ptr 1 0)), (4, (.ptr 2 0)), (5, (.ptr 3 0)), (7, (.d (.bool v283))), (34, (.d (.int .i64 a202))), (35, (.d (.int .i64 v284)))], heap := [(.arr 1 x1), (.arr 1 x2), (.arr 1 (A.rep (Int.ofNat 6) (.int .u8 0))), (.arr 1 v285)], n := 64 }) ⟨rfl, (by first | (cbv; done) | ((repeat (cbv; simp only [c201])); first | done | cbv))⟩ ?_
          rintro ⟨v283, v284, v285⟩ eK366 hsK366
          dsimp only [R90L2] at hsK366
          refine AWp.seq ?_
          refine AWp.rg hT hA {} (by cbv) (lb rfl) ?_
          refine nT ?_
          refine AWp.seq ?_
          rcases tf (A.zlt v284 a202) with c286 | c286
          · replace hsK366 := cT c286 hsK366
            refine AWp.cdT rfl (by first | rfl | simp only [c286, Bool.not_true, Bool.not_false, cond_true, cond_false]) ?_
            refine AWp.skip ?_
            refine nT ?_
            refine AWp.seq ?_
            refine AWp.block ?_
            refine AWp.seq ?_
            refine AWp.rg hT hA {} (by (repeat (cbv; simp only [c286])); first | done | cbv) (lb rfl) ?_
            refine nT ?_
            refine AWp.seq ?_
            refine AWp.region ?_
            obtain ⟨_, e287, hsK366⟩ := bindS hsK366
            have f289 := ckI e287
            obtain ⟨_, e288, hsK366⟩ := bindS hsK366
            have f290 := ckI e288
            obtain ⟨a291, e292, hsK366⟩ := bindS hsK366
            have f293 := gcI e292
            obtain ⟨r295, e294, hsK366⟩ := bindS hsK366
            refine AOps.cc hT hA {} (by (repeat (cbv; simp only [c286, f289, f290, f293])); first | done | cbv) (lb rfl) (R76w hA e294) rfl (.inr rfl) rfl rfl rfl (lb rfl) rfl rfl ?_
            refine AOps.cd hT hA {} (by (repeat (cbv; simp only [c286, f289, f290, f293])); first | done | cbv) (lb rfl) ?_
            refine nT ?_
            refine AWp.block ?_
            obtain ⟨xK363, hxK363, K363, hK363, hkK363⟩ := bindK hsK366
            refine AWp.cutX 6 [0, 1, 4, 5, 7, 34, 35] [] 4 (lb rfl) (fun τ => ∃ v361 v362, K363 (v361, v362) = some eK366 ∧ τ = { env := [(0, (.ptr 0 0)), (1, (.ptr 1 0)), (4, (.ptr 2 0)), (5, (.ptr 3 0)), (7, (.d (.bool v361))), (34, (.d (.int .i64 a202))), (35, (.d (.int .i64 v284)))], heap := [(.arr 1 x1), (.arr 1 x2), (.arr 1 (A.rep (Int.ofNat 6) (.int .u8 0))), (.arr 1 v362)], n := 64 }) ?_ ?_
            · skip
              refine AWp.iter hxK363 [0, 1, 4, 5, 7, 8, 34, 35, 41, 42, 43] [] 4 (lb rfl) (fun (v327, v328, v329) => { env := [(0, (.ptr 0 0)), (1, (.ptr 1 0)), (4, (.ptr 2 0)), (5, (.ptr 3 0)), (7, (.d (.bool v327))), (8, (.d (.int .i64 v284))), (34, (.d (.int .i64 a202))), (35, (.d (.int .i64 v284))), (41, (.own 1 r295)), (42, (.d (.int .i64 (A.len r295)))), (43, (.d (.int .i64 v328)))], heap := [(.arr 1 x1), (.arr 1 x2), (.arr 1 (A.rep (Int.ofNat 6) (.int .u8 0))), (.arr 1 v329)], n := 64 }) ⟨rfl, (by first | (cbv; done) | ((repeat (cbv; simp only [c286])); first | done | cbv))⟩ ?_
              rintro ⟨v327, v328, v329⟩ eK363 hsK363
              dsimp only [R90L1] at hsK363
              refine AWp.seq ?_
              refine AWp.rg hT hA {} (by cbv) (lb rfl) ?_
              refine nT ?_
              refine AWp.seq ?_
              rcases tf (A.zlt v328 (A.len r295)) with c330 | c330
              · replace hsK363 := cT c330 hsK363
                refine AWp.cdT rfl (by first | rfl | simp only [c330, Bool.not_true, Bool.not_false, cond_true, cond_false]) ?_
                refine AWp.skip ?_
                refine nT ?_
                refine AWp.seq ?_
                refine AWp.block ?_
                refine AWp.seq ?_
                obtain ⟨a331, e332, hsK363⟩ := bindS hsK363
                obtain ⟨f333, f334⟩ := gtI e332
                refine AWp.rg hT hA {} (by (repeat (cbv; simp only [c330, f333, f334])); first | done | cbv) (lb rfl) ?_
                refine nT ?_
                refine AWp.seq ?_
                refine AWp.region ?_
                obtain ⟨l339, e335, hsK363⟩ := bindS hsK363
                obtain ⟨f336, f337, f338⟩ := gaI e335
                obtain ⟨r341, e340, hsK363⟩ := bindS hsK363
                refine AOps.cc hT hA {} (by (repeat (cbv; simp only [c330, f336, f337, f338, f336, f337, f338])); first | done | cbv) (lb rfl) (R99w hA e340) rfl (.inr rfl) rfl rfl rfl (lb rfl) rfl rfl ?_
                refine AOps.cd hT hA {} (by (repeat (cbv; simp only [c330, f336, f337, f338, f336, f337, f338])); first | done | cbv) (lb rfl) ?_
                refine nT ?_
                obtain ⟨⟨v358, v359⟩, hvK360, hsK363⟩ := bindS hsK363
                refine AWp.cutN [0, 1, 4, 5, 7, 8, 34, 35, 41, 42, 43] [] 4 (lb rfl) (fun τ => τ = { env := [(0, (.ptr 0 0)), (1, (.ptr 1 0)), (4, (.ptr 2 0)), (5, (.ptr 3 0)), (7, (.d (.bool v358))), (8, (.d (.int .i64 v284))), (34, (.d (.int .i64 a202))), (35, (.d (.int .i64 v284))), (41, (.own 1 r295)), (42, (.d (.int .i64 (A.len r295)))), (43, (.d (.int .i64 v328)))], heap := [(.arr 1 x1), (.arr 1 x2), (.arr 1 (A.rep (Int.ofNat 6) (.int .u8 0))), (.arr 1 v359)], n := 64 }) ?_ ?_
                · skip
                  rcases tf r341 with c342 | c342
                  · replace hvK360 := cT c342 hvK360
                    refine AWp.cdF rfl (by first | rfl | simp only [c330, f336, f337, f338, c342, Bool.not_true, Bool.not_false, cond_true, cond_false]) ?_
                    refine AWp.skip ?_
                    cases soI hvK360
                    exact oNi ⟨rfl, (by first | (cbv; done) | ((repeat (cbv; simp only [c330, f336, f337, f338, c342])); first | done | cbv))⟩
                  · replace hvK360 := cF c342 hvK360
                    refine AWp.cdT rfl (by first | rfl | simp only [c330, f336, f337, f338, c342, Bool.not_true, Bool.not_false, cond_true, cond_false]) ?_
                    refine AWp.seq ?_
                    obtain ⟨_, e343, hvK360⟩ := bindS hvK360
                    have f345 := ckI e343
                    obtain ⟨_, e344, hvK360⟩ := bindS hvK360
                    have f346 := ckI e344
                    obtain ⟨a347, e348, hvK360⟩ := bindS hvK360
                    have f349 := gcI e348
                    obtain ⟨_, e350, hvK360⟩ := bindS hvK360
                    have f351 := nkI e350
                    obtain ⟨_, e352, hvK360⟩ := bindS hvK360
                    have f354 := ckI e352
                    obtain ⟨_, e353, hvK360⟩ := bindS hvK360
                    have f355 := ckI e353
                    obtain ⟨d356, e357, hvK360⟩ := bindS hvK360
                    refine AWp.rd hT hA { tk := [59] } rfl (by (repeat (cbv; simp only [c330, f336, f337, f338, c342, f345, f346, f349, f351, f354, f355, e357])); first | done | cbv) (by kernel_rfl) (lb rfl) ?_
                    refine nT ?_
                    refine AWp.rg hT hA {} (by (repeat (cbv; simp only [c330, f336, f337, f338, c342])); first | done | cbv) (lb rfl) ?_
                    cases soI hvK360
                    exact oNi ⟨rfl, (by first | (cbv; done) | ((repeat (cbv; simp only [c330, f336, f337, f338, c342])); first | done | cbv))⟩
                · rintro _ rfl
                  refine nB ?_
                  refine nT ?_
                  refine AWp.rg hT hA {} (by cbv) (lb rfl) ?_
                  exact nT ⟨_, (soI hsK363).symm, rfl, (by cbv)⟩
              · replace hsK363 := cF c330 hsK363
                refine AWp.cdF rfl (by first | rfl | simp only [c330, Bool.not_true, Bool.not_false, cond_true, cond_false]) ?_
                refine AWp.exit ?_
                refine xT ?_
                refine xT ?_
                refine exL hsK363 fun hx => ?_
                subst hx
                exact oxI ⟨rfl, _, _, hkK363, (by first | (cbv; done) | ((repeat (cbv; simp only [c330])); first | done | cbv))⟩
            · rintro _ ⟨v361, v362, hkK363, rfl⟩
              have hsK366 := (hK363 _ hkK363)
              refine xB ?_
              refine nB ?_
              refine nT ?_
              refine AWp.rg hT hA {} (by cbv) (lb rfl) ?_
              exact nT ⟨_, (soI hsK366).symm, rfl, (by cbv)⟩
          · replace hsK366 := cF c286 hsK366
            refine AWp.cdF rfl (by first | rfl | simp only [c286, Bool.not_true, Bool.not_false, cond_true, cond_false]) ?_
            refine AWp.exit ?_
            refine xT ?_
            refine xT ?_
            refine exL hsK366 fun hx => ?_
            subst hx
            exact oxI ⟨rfl, _, _, hkK366, (by first | (cbv; done) | ((repeat (cbv; simp only [c286])); first | done | cbv))⟩
        · rintro _ ⟨v364, v365, hkK366, rfl⟩
          have hsK368 := (hK366 _ hkK366)
          refine xB ?_
          refine nB ?_
          exact nT ⟨_, (soI hsK368).symm, rfl, (by cbv)⟩
      · replace hsK368 := cF c201 hsK368
        refine AWp.cdF rfl (by first | rfl | simp only [c201, Bool.not_true, Bool.not_false, cond_true, cond_false]) ?_
        refine AWp.exit ?_
        refine xT ?_
        refine xT ?_
        refine exL hsK368 fun hx => ?_
        subst hx
        exact oxI ⟨rfl, _, hkK368, (by first | (cbv; done) | ((repeat (cbv; simp only [c201])); first | done | cbv))⟩
    · rintro _ ⟨v367, hkK368, rfl⟩
      have h := (hK368 _ hkK368)
      refine xB ?_
      refine nT ?_
      refine AWp.seq ?_
      obtain ⟨l373, e369, h⟩ := bindS h
      obtain ⟨f370, f371, f372⟩ := gaI e369
      obtain ⟨_, e377, h⟩ := bindS h
      have f376 := ckI e377
      obtain ⟨_, e374, h⟩ := bindS h
      have f375 := ckI e374
      refine AWp.rg hT hA { tk := [63] } (by (repeat (cbv; simp only [f370, f371, f372, f370, f371, f372, f375, f376])); first | done | cbv) (lb rfl) ?_
      refine nT ?_
      obtain ⟨_, e378, h⟩ := bindS h
      have f380 := ckI e378
      obtain ⟨_, e379, h⟩ := bindS h
      have f381 := ckI e379
      refine AWp.ret ?_
      cases soI h
      exact ⟨(rs1 (resCk rfl rfl rfl rfl (lnN hA (by assumption)) (onN hA (by assumption)))), rfl, rfl, lb rfl, _, rfl⟩

theorem R91w {A : Ar} (hA : A = Ar.std) {x1 : Int} {x2 : Int} {v5 : Bool} (h : R91 A x1 x2 = some v5) : ACall Try.prog 91 [(.d (.int .u8 x1)), (.d (.int .i64 x2))] [] (.d (.bool v5)) [] := by
  unfold R91 at h
  refine ACall.enter hT (fn := Try.f91) Try.func91 rfl (by decide) (by simp [Try.f91]) rfl rfl rfl rfl (lb rfl) ?_
  refine AWp.seq ?_
  refine AWp.rg hT hA {} (by cbv) (lb rfl) ?_
  refine nT ?_
  refine AWp.seq ?_
  obtain ⟨_, e3, h⟩ := bindS h
  have f4 := nkI e3
  refine AWp.rg hT hA { tk := [9] } (by (repeat (cbv; simp only [f4])); first | done | cbv) (lb rfl) ?_
  refine nT ?_
  refine AWp.ret ?_
  cases soI h
  exact ⟨rfl, rfl, rfl, lb rfl, _, rfl⟩

theorem R44w {A : Ar} (hA : A = Ar.std) {x1 : Int} {x2 : List D} {x3 : Int} {x4 : List D} {v20 : Bool} {v21 : Int} (h : R44 A x1 x2 x3 x4 = some (v20, v21)) : ACall Try.prog 44 [(.d (.agg [(.int .i64 x1), (.list 3 x2)])), (.d (.agg [(.int .i64 x3), (.list 3 x4)]))] [] (.tuple [(.d (.bool v20)), (.d (.int .i64 v21))]) [] := by
  unfold R44 at h
  refine ACall.enter hT (fn := Try.f44) Try.func44 rfl (by decide) (by simp [Try.f44]) rfl rfl rfl rfl (lb rfl) ?_
  refine AWp.seq ?_
  refine AWp.rg hT hA {} (by cbv) (lb rfl) ?_
  refine nT ?_
  refine AWp.seq ?_
  refine AWp.region ?_
  obtain ⟨q9, e5, h⟩ := bindS h
  rcases q9 with ⟨r6, r7⟩ | r8 | _
  · replace h := (eL h)
    refine AOps.cc hT hA {} (by cbv) (lb rfl) (R70wa hA e5) rfl (.inl rfl) rfl rfl rfl (lb rfl) rfl rfl ?_
    refine AOps.cd hT hA {} (by cbv) (lb rfl) ?_
    refine nT ?_
    refine AWp.seq ?_
    refine AWp.region ?_
    have f10 := zeqF hA (a := 0) (b := 0) (c := true) rfl
    obtain ⟨r12, e11, h⟩ := bindS h
    refine AOps.cc hT hA {} (by (repeat (cbv; simp only [f10])); first | done | cbv) (lb rfl) (R90w hA e11) rfl (.inl rfl) rfl rfl rfl (lb rfl) rfl rfl ?_
    obtain ⟨a14, e13, h⟩ := bindS h
    have f15 := gcI e13
    obtain ⟨r17, e16, h⟩ := bindS h
    refine AOps.cc hT hA {} (by (repeat (cbv; simp only [f10, f15])); first | done | cbv) (lb rfl) (R91w hA e16) rfl (.inr rfl) rfl rfl rfl (lb rfl) rfl rfl ?_
    refine AOps.cd hT hA {} (by (repeat (cbv; simp only [f10, f15])); first | done | cbv) (lb rfl) ?_
    refine nT ?_
    refine AWp.ret ?_
    cases soI h
    exact ⟨rfl, rfl, rfl, lb rfl, _, rfl⟩
  · replace h := (eL (eR h))
    refine AOps.cc hT hA {} (by cbv) (lb rfl) (R70wb hA e5) rfl (.inl rfl) rfl rfl rfl (lb rfl) rfl rfl ?_
    refine AOps.cd hT hA {} (by cbv) (lb rfl) ?_
    refine nT ?_
    refine AWp.seq ?_
    refine AWp.region ?_
    have f18 := zeqF hA (a := 50) (b := 0) (c := false) rfl
    refine AOps.cd hT hA {} (by (repeat (cbv; simp only [f18])); first | done | cbv) (lb rfl) ?_
    refine nT ?_
    refine AWp.ret ?_
    cases soI h
    exact ⟨rfl, rfl, rfl, lb rfl, _, rfl⟩
  · replace h := (eR (eR h))
    refine AOps.cc hT hA {} (by cbv) (lb rfl) (R70wc hA e5) rfl (.inl rfl) rfl rfl rfl (lb rfl) rfl rfl ?_
    refine AOps.cd hT hA {} (by cbv) (lb rfl) ?_
    refine nT ?_
    refine AWp.seq ?_
    refine AWp.region ?_
    have f19 := zeqF hA (a := 50) (b := 0) (c := false) rfl
    refine AOps.cd hT hA {} (by (repeat (cbv; simp only [f19])); first | done | cbv) (lb rfl) ?_
    refine nT ?_
    refine AWp.ret ?_
    cases soI h
    exact ⟨rfl, rfl, rfl, lb rfl, _, rfl⟩

theorem R102w {A : Ar} (hA : A = Ar.std) {x1 : Int} {x2 : Int} {x3 : Int} {x4 : Int} {x5 : Int} {x6 : Int} {x7 : List D} {x8 : Int} {x9 : List D} {v19 : List D} (h : R102 A x1 x2 x3 x4 x5 x6 x7 x8 x9 = some v19) : ACall Try.prog 102 [(.d (.int .i64 x1)), (.d (.int .i64 x2)), (.d (.int .i64 x3)), (.d (.int .i64 x4)), (.d (.int .i64 x5)), (.ptr 0 0), (.ptr 1 0)] [(.cells [(.d (.int .i64 x6)), (.d (.list 3 x7))]), (.cells [(.d (.int .i64 x8)), (.own 3 x9)])] (.tuple []) [(.cells [(.d (.int .i64 x6)), (.d (.list 3 x7))]), (.cells [(.d (.int .i64 x8)), (.own 3 v19)])] := by
  unfold R102 at h
  refine ACall.enter hT (fn := Try.f102) Try.func102 rfl (by decide) (by simp [Try.f102]) rfl rfl rfl rfl (lb rfl) ?_
  refine AWp.seq ?_
  refine AWp.rg hT hA { tk := [26] } (by cbv) (lb rfl) ?_
  refine nT ?_
  refine AWp.seq ?_
  refine AWp.region ?_
  obtain ⟨r11, e10, h⟩ := bindS h
  refine AOps.cc hT hA {} (by cbv) (lb rfl) (R89w hA e10) rfl (.inr rfl) rfl rfl rfl (lb rfl) rfl rfl ?_
  refine AOps.cd hT hA {} (by cbv) (lb rfl) ?_
  refine nT ?_
  obtain ⟨v17, hvK18, h⟩ := bindS h
  refine AWp.cutN [] [] 2 (lb rfl) (fun τ => τ = { env := [], heap := [(.cells [(.d (.int .i64 x6)), (.d (.list 3 x7))]), (.cells [(.d (.int .i64 x8)), (.own 3 v17)])], n := 38 }) ?_ ?_
  · skip
    rcases tf r11 with c12 | c12
    · replace hvK18 := cT c12 hvK18
      refine AWp.cdF rfl (by first | rfl | simp only [c12, Bool.not_true, Bool.not_false, cond_true, cond_false]) ?_
      refine AWp.skip ?_
      cases soI hvK18
      exact oNi ⟨rfl, (by first | (cbv; done) | ((repeat (cbv; simp only [c12])); first | done | cbv))⟩
    · replace hvK18 := cF c12 hvK18
      refine AWp.cdT rfl (by first | rfl | simp only [c12, Bool.not_true, Bool.not_false, cond_true, cond_false]) ?_
      obtain ⟨l13, e14, hvK18⟩ := bindS hvK18
      obtain ⟨f15, f16⟩ := apI e14
      refine AWp.rg hT hA { tk := [33, 36] } (by (repeat (cbv; simp only [c12, f15, f16])); first | done | cbv) (lb rfl) ?_
      cases soI hvK18
      exact oNi ⟨rfl, (by first | (cbv; done) | ((repeat (cbv; simp only [c12])); first | done | cbv))⟩
  · rintro _ rfl
    cases soI h
    exact ⟨rfl, rfl, rfl, lb rfl, _, rfl⟩

theorem R103w {A : Ar} (hA : A = Ar.std) {x1 : List D} (h : R103 A x1 = some ()) : ACall Try.prog 103 [(.d (.list 3 x1)), (.func 104 [] [])] [] (.tuple []) [] := ACall.sortNone Try.sort103 rfl (lenZ hA (ckI h)) rfl

theorem R113w {A : Ar} (hA : A = Ar.std) {x1 : List D} {v17 : Int} (h : R113 A x1 = some v17) : ACall Try.prog 113 [(.d (.list 1 x1))] [] (.d (.int .i64 v17)) [] := by
  unfold R113 at h
  refine ACall.enter hT (fn := Try.f113) Try.func113 rfl (by decide) (by simp [Try.f113]) rfl rfl rfl rfl (lb rfl) ?_
  refine AWp.seq ?_
  refine AWp.rg hT hA {} (by cbv) (lb rfl) ?_
  refine nT ?_
  refine AWp.seq ?_
  refine AWp.rg hT hA {} (by cbv) (lb rfl) ?_
  refine nT ?_
  refine AWp.seq ?_
  refine AWp.seq ?_
  refine AWp.rg hT hA {} (by cbv) (lb rfl) ?_
  refine nT ?_
  refine AWp.block ?_
  obtain ⟨xK16, hxK16, K16, hK16, hkK16⟩ := bindK h
  refine AWp.cutX 0 [3] [] 0 (lb rfl) (fun τ => K16 (.inl ()) = some v17 ∧ τ = { env := [(3, (.d (.int .i64 0)))], heap := [], n := 18 }) ?_ ?_
  · skip
    refine AWp.iter hxK16 [3, 6, 7, 8] [] 0 (lb rfl) (fun v8 => { env := [(3, (.d (.int .i64 0))), (6, (.d (.list 1 x1))), (7, (.d (.int .i64 (A.len x1)))), (8, (.d (.int .i64 v8)))], heap := [], n := 18 }) ⟨rfl, (by cbv)⟩ ?_
    rintro v8 eK16 hsK16
    dsimp only [R113L0] at hsK16
    refine AWp.seq ?_
    refine AWp.rg hT hA {} (by cbv) (lb rfl) ?_
    refine nT ?_
    refine AWp.seq ?_
    rcases tf (A.zlt v8 (A.len x1)) with c9 | c9
    · replace hsK16 := cT c9 hsK16
      refine AWp.cdT rfl (by first | rfl | simp only [c9, Bool.not_true, Bool.not_false, cond_true, cond_false]) ?_
      refine AWp.skip ?_
      refine nT ?_
      refine AWp.seq ?_
      refine AWp.block ?_
      refine AWp.seq ?_
      obtain ⟨a10, e11, hsK16⟩ := bindS hsK16
      obtain ⟨f12, f13⟩ := gtI e11
      refine AWp.rg hT hA { tk := [11] } (by (repeat (cbv; simp only [c9, f12, f13])); first | done | cbv) (lb rfl) ?_
      refine nT ?_
      refine AWp.seq ?_
      refine AWp.rg hT hA {} (by (repeat (cbv; simp only [c9])); first | done | cbv) (lb rfl) ?_
      refine nT ?_
      rcases tf (A.zeq a10 0) with c14 | c14
      · replace hsK16 := cT c14 hsK16
        refine AWp.cdF rfl (by first | rfl | simp only [c9, c14, Bool.not_true, Bool.not_false, cond_true, cond_false]) ?_
        refine AWp.skip ?_
        refine nB ?_
        refine nT ?_
        refine AWp.rg hT hA {} (by (repeat (cbv; simp only [c9, c14])); first | done | cbv) (lb rfl) ?_
        exact nT ⟨_, (soI hsK16).symm, rfl, (by first | (cbv; done) | ((repeat (cbv; simp only [c9, c14])); first | done | cbv))⟩
      · replace hsK16 := cF c14 hsK16
        refine AWp.cdT rfl (by first | rfl | simp only [c9, c14, Bool.not_true, Bool.not_false, cond_true, cond_false]) ?_
        refine AWp.seq ?_
        refine AWp.rg hT hA { tk := [5, 15] } (by (repeat (cbv; simp only [c9, c14])); first | done | cbv) (lb rfl) ?_
        refine nT ?_
        refine AWp.ret ?_
        refine rB ?_
        refine rT ?_
        refine rT ?_
        refine exL hsK16 fun hx => ?_
        subst hx
        refine oxR ?_
        replace hkK16 := (eR (hK16 _ hkK16))
        refine rB ?_
        refine rT ?_
        cases soI hkK16
        exact ⟨rfl, rfl, rfl, lb rfl, _, rfl⟩
    · replace hsK16 := cF c9 hsK16
      refine AWp.cdF rfl (by first | rfl | simp only [c9, Bool.not_true, Bool.not_false, cond_true, cond_false]) ?_
      refine AWp.exit ?_
      refine xT ?_
      refine xT ?_
      refine exL hsK16 fun hx => ?_
      subst hx
      exact oxI ⟨rfl, hkK16, (by first | (cbv; done) | ((repeat (cbv; simp only [c9])); first | done | cbv))⟩
  · rintro _ ⟨hkK16, rfl⟩
    have h := (eL (hK16 _ hkK16))
    refine xB ?_
    refine nT ?_
    refine AWp.seq ?_
    refine AWp.rg hT hA { tk := [3, 17] } (by cbv) (lb rfl) ?_
    refine nT ?_
    refine AWp.ret ?_
    cases soI h
    exact ⟨rfl, rfl, rfl, lb rfl, _, rfl⟩

theorem R104w {A : Ar} (hA : A = Ar.std) {x1 : Int} {x2 : Int} {x3 : Int} {x4 : Int} {x5 : Int} {x6 : Int} {v15 : Int} (h : R104 A x1 x2 x3 x4 x5 x6 = some v15) : ACall Try.prog 104 [(.d (.agg [(.int .i64 x1), (.int .i64 x2), (.int .i64 x3)])), (.d (.agg [(.int .i64 x4), (.int .i64 x5), (.int .i64 x6)]))] [] (.d (.int .i64 v15)) [] := by
  unfold R104 at h
  refine ACall.enter hT (fn := Try.f104) Try.func104 rfl (by decide) (by simp [Try.f104]) rfl rfl rfl rfl (lb rfl) ?_
  refine AWp.seq ?_
  refine AWp.rg hT hA {} (by cbv) (lb rfl) ?_
  refine nT ?_
  refine AWp.seq ?_
  refine AWp.regionDraw rfl (lb rfl) ?_
  obtain ⟨r8, e7, h⟩ := bindS h
  refine DOps.c0 hT hA { tk := [21] } rfl (by cbv) (R114w hA e7) rfl rfl (lb rfl) rfl rfl ?_
  obtain ⟨r10, e9, h⟩ := bindS h
  refine DOps.c0 hT hA { tk := [21] } rfl (by cbv) (R114w hA e9) rfl rfl (lb rfl) rfl rfl ?_
  obtain ⟨r12, e11, h⟩ := bindS h
  refine DOps.c0 hT hA { tk := [21] } rfl (by cbv) (R114w hA e11) rfl rfl (lb rfl) rfl rfl ?_
  obtain ⟨r14, e13, h⟩ := bindS h
  refine DOps.c0 hT hA { tk := [21] } rfl (by cbv) (R113w hA e13) rfl rfl (lb rfl) rfl rfl ?_
  refine DOps.cd hT hA { tk := [21] } rfl (by cbv) (by kernel_rfl) ?_
  refine nT ?_
  refine AWp.ret ?_
  cases soI h
  exact ⟨rfl, rfl, rfl, lb rfl, _, rfl⟩

theorem R103aw {A : Ar} (hA : A = Ar.std) {x1 : Int} {x2 : Int} {x3 : Int} {x4 : Int} {x5 : Int} {x6 : List D} {r : List D} (h : R103a A x1 x2 x3 x4 x5 x6 = some r) : ACall Try.prog 103 [(.mref 2 3 x1 x2), (.func 104 [] [])] [.dead, (.cells [(.d (.int .i64 x3)), (.mref 2 3 x4 x5)]), (.arr 3 x6)] (.tuple []) [.dead, (.cells [(.d (.int .i64 x3)), (.mref 2 3 x4 x5)]), (.arr 3 r)] :=
  ACall.sortAgg Try.sort103 rfl Try.isAgg66 Try.sizeOf66 (c := (cG (lc (cI .i64) (lc (cI .i64) (l1 (cI .i64)))))) (fun ⟨a0, a1, a2⟩ => ⟨_, rfl, rfl⟩) (g := 104) (caps := []) rfl (fun ⟨a0, a1, a2⟩ ⟨b0, b1, b2⟩ _ h => R104w hA h) rfl rfl h (i := 2) rfl rfl

theorem R56w {A : Ar} (hA : A = Ar.std) {x1 : Int} {x2 : List D} {x3 : Int} {x4 : List D} {v192 : Int} {v193 : List D} {v194 : Int} (h : R56 A x1 x2 x3 x4 = some (v192, v193, v194)) : ACall Try.prog 56 [(.d (.agg [(.int .i64 x1), (.list 3 x2)])), (.d (.agg [(.int .i64 x3), (.list 3 x4)]))] [] (.tuple [(.d (.agg [(.int .i64 v192), (.list 3 v193)])), (.d (.int .i64 v194))]) [] := by
  unfold R56 at h
  refine ACall.enterR hT (fn := Try.f56) Try.func56 rfl (by decide) (by simp [Try.f56]) rfl rfl rfl rfl rfl ?_
  refine AWpR.seq ?_
  refine AWpT.of ?_
  refine AWp.rg hT hA { esc := [3] } (by cbv) (lb rfl) ?_
  refine nT ?_
  refine AWpR.seq ?_
  refine AWpT.of ?_
  refine AWp.block ?_
  refine AWp.seq ?_
  obtain ⟨v10, hvK11, h⟩ := bindS h
  refine AWp.cutN [2, 3, 4, 16] [] 1 (lb rfl) (fun τ => τ = { env := [(2, (.lbox [(.d (.int .i64 x1)), (.d (.list 3 x2))])), (3, (.ptr 0 0)), (4, (.lbox [(.d (.int .i64 0)), (.own 3 [])])), (16, (.d (.bool v10)))], heap := [(.cells [(.d (.int .i64 x3)), (.d (.list 3 x4))])], n := 130 }) ?_ ?_
  · skip
    refine AWp.region ?_
    obtain ⟨r6, e5, hvK11⟩ := bindS hvK11
    refine AOps.cc hT hA {} (by cbv) (lb rfl) (R33w hA e5) rfl (.inr rfl) rfl rfl rfl (lb rfl) rfl rfl ?_
    rcases tf r6 with c7 | c7
    · replace hvK11 := cT c7 hvK11
      obtain ⟨r9, e8, hvK11⟩ := bindS hvK11
      refine AOps.cc hT hA {} (by (repeat (cbv; simp only [c7])); first | done | cbv) (lb rfl) (R33w hA e8) rfl (.inr rfl) rfl rfl rfl (lb rfl) rfl rfl ?_
      refine AOps.cd hT hA {} (by (repeat (cbv; simp only [c7])); first | done | cbv) (lb rfl) ?_
      cases soI hvK11
      exact oNi ⟨rfl, (by first | (cbv; done) | ((repeat (cbv; simp only [c7])); first | done | cbv))⟩
    · replace hvK11 := cF c7 hvK11
      refine AOps.cd hT hA {} (by (repeat (cbv; simp only [c7])); first | done | cbv) (lb rfl) ?_
      cases soI hvK11
      exact oNi ⟨rfl, (by first | (cbv; done) | ((repeat (cbv; simp only [c7])); first | done | cbv))⟩
  · rintro _ rfl
    refine nT ?_
    rcases tf v10 with c12 | c12
    · replace h := cT c12 h
      refine AWp.cdT rfl (by first | rfl | simp only [c12, Bool.not_true, Bool.not_false, cond_true, cond_false]) ?_
      refine AWp.seq ?_
      refine AWp.rg hT hA { tk := [25], nl := [25] } (by (repeat (cbv; simp only [c12])); first | done | cbv) (lb rfl) ?_
      refine nT ?_
      refine AWp.ret ?_
      refine rB ?_
      refine rT ?_
      cases soI h
      exact ⟨rfl, rfl, rfl, lb rfl, _, rfl⟩
    · replace h := cF c12 h
      refine AWp.cdF rfl (by first | rfl | simp only [c12, Bool.not_true, Bool.not_false, cond_true, cond_false]) ?_
      refine AWp.seq ?_
      refine AWp.rg hT hA {} (by (repeat (cbv; simp only [c12])); first | done | cbv) (lb rfl) ?_
      refine nT ?_
      rcases tf (A.zlt 6 (A.wrp .i64 (A.zmul x1 x3))) with c13 | c13
      · replace h := cT c13 h
        refine AWp.cdT rfl (by first | rfl | simp only [c12, c13, Bool.not_true, Bool.not_false, cond_true, cond_false]) ?_
        refine AWp.seq ?_
        refine AWp.rg hT hA { tk := [33], nl := [33] } (by (repeat (cbv; simp only [c12, c13])); first | done | cbv) (lb rfl) ?_
        refine nT ?_
        refine AWp.ret ?_
        refine rB ?_
        refine rT ?_
        cases soI h
        exact ⟨rfl, rfl, rfl, lb rfl, _, rfl⟩
      · replace h := cF c13 h
        refine AWp.cdF rfl (by first | rfl | simp only [c12, c13, Bool.not_true, Bool.not_false, cond_true, cond_false]) ?_
        refine AWp.skip ?_
        refine nB ?_
        refine nT ?_
        refine AWpR.seq ?_
        refine AWpT.of ?_
        refine AWp.rg hT hA { tk := [39], esc := [6], nl := [39] } (by (repeat (cbv; simp only [c12, c13])); first | done | cbv) (lb rfl) ?_
        refine nT ?_
        refine AWpR.seq ?_
        refine AWpT.of ?_
        refine AWp.rg hT hA {} (by (repeat (cbv; simp only [c12, c13])); first | done | cbv) (lb rfl) ?_
        refine nT ?_
        refine AWpR.seq ?_
        refine AWpT.of ?_
        refine AWp.seq ?_
        refine AWp.rg hT hA {} (by (repeat (cbv; simp only [c12, c13])); first | done | cbv) (lb rfl) ?_
        refine nT ?_
        refine AWp.block ?_
        obtain ⟨xK131, hxK131, K131, hK131, hkK131⟩ := bindK h
        refine AWp.cutX 1 [2, 3, 4, 6, 7] [] 2 (lb rfl) (fun τ => ∃ v130, K131 v130 = some (v192, v193, v194) ∧ τ = { env := [(2, (.lbox [(.d (.int .i64 x1)), (.d (.list 3 x2))])), (3, (.ptr 0 0)), (4, (.lbox [(.d (.int .i64 0)), (.own 3 [])])), (6, (.ptr 1 0)), (7, (.func 102 [] [(.ptr 0 0), (.ptr 1 0)]))], heap := [(.cells [(.d (.int .i64 x3)), (.d (.list 3 x4))]), (.cells [(.d (.int .i64 (A.wrp .i64 (A.zmul x1 x3)))), (.own 3 v130)])], n := 130 }) ?_ ?_
        · skip
          refine AWp.iter hxK131 [2, 3, 4, 6, 7, 42, 43, 44] [] 2 (lb rfl) (fun (v71, v72) => { env := [(2, (.lbox [(.d (.int .i64 x1)), (.d (.list 3 x2))])), (3, (.ptr 0 0)), (4, (.lbox [(.d (.int .i64 0)), (.own 3 [])])), (6, (.ptr 1 0)), (7, (.func 102 [] [(.ptr 0 0), (.ptr 1 0)])), (42, (.d (.list 3 x2))), (43, (.d (.int .i64 (A.len x2)))), (44, (.d (.int .i64 v71)))], heap := [(.cells [(.d (.int .i64 x3)), (.d (.list 3 x4))]), (.cells [(.d (.int .i64 (A.wrp .i64 (A.zmul x1 x3)))), (.own 3 v72)])], n := 130 }) ⟨rfl, (by first | (cbv; done) | ((repeat (cbv; simp only [c12, c13])); first | done | cbv))⟩ ?_
          rintro ⟨v71, v72⟩ eK131 hsK131
          dsimp only [R56L2] at hsK131
          refine AWp.seq ?_
          refine AWp.rg hT hA {} (by cbv) (lb rfl) ?_
          refine nT ?_
          refine AWp.seq ?_
          rcases tf (A.zlt v71 (A.len x2)) with c73 | c73
          · replace hsK131 := cT c73 hsK131
            refine AWp.cdT rfl (by first | rfl | simp only [c73, Bool.not_true, Bool.not_false, cond_true, cond_false]) ?_
            refine AWp.skip ?_
            refine nT ?_
            refine AWp.seq ?_
            refine AWp.block ?_
            refine AWp.seq ?_
            obtain ⟨⟨a74, a75, a76⟩, e77, hsK131⟩ := bindS hsK131
            obtain ⟨f78, f79⟩ := gtI e77
            refine AWp.rg hT hA { tk := [47] } (by (repeat (cbv; simp only [c73, f78, f79])); first | done | cbv) (lb rfl) ?_
            refine nT ?_
            refine AWp.seq ?_
            refine AWp.seq ?_
            refine AWp.rg hT hA {} (by (repeat (cbv; simp only [c73])); first | done | cbv) (lb rfl) ?_
            refine nT ?_
            refine AWp.block ?_
            obtain ⟨xK113, hxK113, K113, hK113, hkK113⟩ := bindK hsK131
            refine AWp.cutX 3 [2, 3, 4, 6, 7, 9, 42, 43, 44] [] 2 (lb rfl) (fun τ => ∃ v112, K113 v112 = some eK131 ∧ τ = { env := [(2, (.lbox [(.d (.int .i64 x1)), (.d (.list 3 x2))])), (3, (.ptr 0 0)), (4, (.lbox [(.d (.int .i64 0)), (.own 3 [])])), (6, (.ptr 1 0)), (7, (.func 102 [] [(.ptr 0 0), (.ptr 1 0)])), (9, (.lbox [(.d (.int .i64 a74)), (.d (.int .i64 a75)), (.d (.int .i64 a76))])), (42, (.d (.list 3 x2))), (43, (.d (.int .i64 (A.len x2)))), (44, (.d (.int .i64 v71)))], heap := [(.cells [(.d (.int .i64 x3)), (.d (.list 3 x4))]), (.cells [(.d (.int .i64 (A.wrp .i64 (A.zmul x1 x3)))), (.own 3 v112)])], n := 130 }) ?_ ?_
            · skip
              refine AWp.iter hxK113 [2, 3, 4, 6, 7, 9, 42, 43, 44, 49, 50, 51] [] 2 (lb rfl) (fun (v95, v96) => { env := [(2, (.lbox [(.d (.int .i64 x1)), (.d (.list 3 x2))])), (3, (.ptr 0 0)), (4, (.lbox [(.d (.int .i64 0)), (.own 3 [])])), (6, (.ptr 1 0)), (7, (.func 102 [] [(.ptr 0 0), (.ptr 1 0)])), (9, (.lbox [(.d (.int .i64 a74)), (.d (.int .i64 a75)), (.d (.int .i64 a76))])), (42, (.d (.list 3 x2))), (43, (.d (.int .i64 (A.len x2)))), (44, (.d (.int .i64 v71))), (49, (.d (.list 3 x4))), (50, (.d (.int .i64 (A.len x4)))), (51, (.d (.int .i64 v95)))], heap := [(.cells [(.d (.int .i64 x3)), (.d (.list 3 x4))]), (.cells [(.d (.int .i64 (A.wrp .i64 (A.zmul x1 x3)))), (.own 3 v96)])], n := 130 }) ⟨rfl, (by first | (cbv; done) | ((repeat (cbv; simp only [c73])); first | done | cbv))⟩ ?_
              rintro ⟨v95, v96⟩ eK113 hsK113
              dsimp only [R56L0] at hsK113
              refine AWp.seq ?_
              refine AWp.rg hT hA {} (by cbv) (lb rfl) ?_
              refine nT ?_
              refine AWp.seq ?_
              rcases tf (A.zlt v95 (A.len x4)) with c97 | c97
              · replace hsK113 := cT c97 hsK113
                refine AWp.cdT rfl (by first | rfl | simp only [c97, Bool.not_true, Bool.not_false, cond_true, cond_false]) ?_
                refine AWp.skip ?_
                refine nT ?_
                refine AWp.seq ?_
                refine AWp.block ?_
                refine AWp.seq ?_
                obtain ⟨⟨a98, a99, a100⟩, e101, hsK113⟩ := bindS hsK113
                obtain ⟨f102, f103⟩ := gtI e101
                refine AWp.rg hT hA { tk := [54] } (by (repeat (cbv; simp only [c97, f102, f103])); first | done | cbv) (lb rfl) ?_
                refine nT ?_
                refine AWp.seq ?_
                obtain ⟨v105, hvK106, hsK113⟩ := bindS hsK113
                refine AWp.cutN [2, 3, 4, 6, 7, 9, 11, 42, 43, 44, 49, 50, 51, 64] [] 2 (lb rfl) (fun τ => τ = { env := [(2, (.lbox [(.d (.int .i64 x1)), (.d (.list 3 x2))])), (3, (.ptr 0 0)), (4, (.lbox [(.d (.int .i64 0)), (.own 3 [])])), (6, (.ptr 1 0)), (7, (.func 102 [] [(.ptr 0 0), (.ptr 1 0)])), (9, (.lbox [(.d (.int .i64 a74)), (.d (.int .i64 a75)), (.d (.int .i64 a76))])), (11, (.lbox [(.d (.int .i64 a98)), (.d (.int .i64 a99)), (.d (.int .i64 a100))])), (42, (.d (.list 3 x2))), (43, (.d (.int .i64 (A.len x2)))), (44, (.d (.int .i64 v71))), (49, (.d (.list 3 x4))), (50, (.d (.int .i64 (A.len x4)))), (51, (.d (.int .i64 v95))), (64, (.d (.bool v105)))], heap := [(.cells [(.d (.int .i64 x3)), (.d (.list 3 x4))]), (.cells [(.d (.int .i64 (A.wrp .i64 (A.zmul x1 x3)))), (.own 3 v96)])], n := 130 }) ?_ ?_
                · skip
                  rcases tf (A.zeq a75 a99) with c104 | c104
                  · replace hvK106 := cT c104 hvK106
                    refine AWp.rg hT hA {} (by (repeat (cbv; simp only [c97, c104])); first | done | cbv) (lb rfl) ?_
                    cases soI hvK106
                    exact oNi ⟨rfl, (by first | (cbv; done) | ((repeat (cbv; simp only [c97, c104])); first | done | cbv))⟩
                  · replace hvK106 := cF c104 hvK106
                    refine AWp.rg hT hA {} (by (repeat (cbv; simp only [c97, c104])); first | done | cbv) (lb rfl) ?_
                    cases soI hvK106
                    exact oNi ⟨rfl, (by first | (cbv; done) | ((repeat (cbv; simp only [c97, c104])); first | done | cbv))⟩
                · rintro _ rfl
                  refine nT ?_
                  obtain ⟨v110, hvK111, hsK113⟩ := bindS hsK113
                  refine AWp.cutN [2, 3, 4, 6, 7, 9, 42, 43, 44, 49, 50, 51] [] 2 (lb rfl) (fun τ => τ = { env := [(2, (.lbox [(.d (.int .i64 x1)), (.d (.list 3 x2))])), (3, (.ptr 0 0)), (4, (.lbox [(.d (.int .i64 0)), (.own 3 [])])), (6, (.ptr 1 0)), (7, (.func 102 [] [(.ptr 0 0), (.ptr 1 0)])), (9, (.lbox [(.d (.int .i64 a74)), (.d (.int .i64 a75)), (.d (.int .i64 a76))])), (42, (.d (.list 3 x2))), (43, (.d (.int .i64 (A.len x2)))), (44, (.d (.int .i64 v71))), (49, (.d (.list 3 x4))), (50, (.d (.int .i64 (A.len x4)))), (51, (.d (.int .i64 v95)))], heap := [(.cells [(.d (.int .i64 x3)), (.d (.list 3 x4))]), (.cells [(.d (.int .i64 (A.wrp .i64 (A.zmul x1 x3)))), (.own 3 v110)])], n := 130 }) ?_ ?_
                  · skip
                    rcases tf v105 with c107 | c107
                    · replace hvK111 := cT c107 hvK111
                      refine AWp.cdT rfl (by first | rfl | simp only [c107, Bool.not_true, Bool.not_false, cond_true, cond_false]) ?_
                      refine AWp.region ?_
                      obtain ⟨r109, e108, hvK111⟩ := bindS hvK111
                      refine AOps.cc hT hA {} (by (repeat (cbv; simp only [c107])); first | done | cbv) (lb rfl) (R102w hA e108) rfl (.inl rfl) rfl rfl rfl (lb rfl) rfl rfl ?_
                      refine AOps.cd hT hA {} (by (repeat (cbv; simp only [c107])); first | done | cbv) (lb rfl) ?_
                      cases soI hvK111
                      exact oNi ⟨rfl, (by first | (cbv; done) | ((repeat (cbv; simp only [c107])); first | done | cbv))⟩
                    · replace hvK111 := cF c107 hvK111
                      refine AWp.cdF rfl (by first | rfl | simp only [c107, Bool.not_true, Bool.not_false, cond_true, cond_false]) ?_
                      refine AWp.skip ?_
                      cases soI hvK111
                      exact oNi ⟨rfl, (by first | (cbv; done) | ((repeat (cbv; simp only [c107])); first | done | cbv))⟩
                  · rintro _ rfl
                    refine nB ?_
                    refine nT ?_
                    refine AWp.rg hT hA {} (by cbv) (lb rfl) ?_
                    exact nT ⟨_, (soI hsK113).symm, rfl, (by cbv)⟩
              · replace hsK113 := cF c97 hsK113
                refine AWp.cdF rfl (by first | rfl | simp only [c97, Bool.not_true, Bool.not_false, cond_true, cond_false]) ?_
                refine AWp.exit ?_
                refine xT ?_
                refine xT ?_
                refine exL hsK113 fun hx => ?_
                subst hx
                exact oxI ⟨rfl, _, hkK113, (by first | (cbv; done) | ((repeat (cbv; simp only [c97])); first | done | cbv))⟩
            · rintro _ ⟨v112, hkK113, rfl⟩
              have hsK131 := (hK113 _ hkK113)
              refine xB ?_
              refine nT ?_
              refine AWp.seq ?_
              refine AWp.rg hT hA {} (by cbv) (lb rfl) ?_
              refine nT ?_
              refine AWp.block ?_
              obtain ⟨xK129, hxK129, K129, hK129, hkK129⟩ := bindK hsK131
              refine AWp.cutX 5 [2, 3, 4, 6, 7, 42, 43, 44] [] 2 (lb rfl) (fun τ => ∃ v128, K129 v128 = some eK131 ∧ τ = { env := [(2, (.lbox [(.d (.int .i64 x1)), (.d (.list 3 x2))])), (3, (.ptr 0 0)), (4, (.lbox [(.d (.int .i64 0)), (.own 3 [])])), (6, (.ptr 1 0)), (7, (.func 102 [] [(.ptr 0 0), (.ptr 1 0)])), (42, (.d (.list 3 x2))), (43, (.d (.int .i64 (A.len x2)))), (44, (.d (.int .i64 v71)))], heap := [(.cells [(.d (.int .i64 x3)), (.d (.list 3 x4))]), (.cells [(.d (.int .i64 (A.wrp .i64 (A.zmul x1 x3)))), (.own 3 v128)])], n := 130 }) ?_ ?_
              · skip
                refine AWp.iter hxK129 [2, 3, 4, 6, 7, 9, 42, 43, 44, 79, 80] [] 2 (lb rfl) (fun (v120, v121) => { env := [(2, (.lbox [(.d (.int .i64 x1)), (.d (.list 3 x2))])), (3, (.ptr 0 0)), (4, (.lbox [(.d (.int .i64 0)), (.own 3 [])])), (6, (.ptr 1 0)), (7, (.func 102 [] [(.ptr 0 0), (.ptr 1 0)])), (9, (.lbox [(.d (.int .i64 a74)), (.d (.int .i64 a75)), (.d (.int .i64 a76))])), (42, (.d (.list 3 x2))), (43, (.d (.int .i64 (A.len x2)))), (44, (.d (.int .i64 v71))), (79, (.d (.int .i64 x3))), (80, (.d (.int .i64 v120)))], heap := [(.cells [(.d (.int .i64 x3)), (.d (.list 3 x4))]), (.cells [(.d (.int .i64 (A.wrp .i64 (A.zmul x1 x3)))), (.own 3 v121)])], n := 130 }) ⟨rfl, (by cbv)⟩ ?_
                rintro ⟨v120, v121⟩ eK129 hsK129
                dsimp only [R56L1] at hsK129
                refine AWp.seq ?_
                refine AWp.rg hT hA {} (by cbv) (lb rfl) ?_
                refine nT ?_
                refine AWp.seq ?_
                rcases tf (A.zlt v120 x3) with c122 | c122
                · replace hsK129 := cT c122 hsK129
                  refine AWp.cdT rfl (by first | rfl | simp only [c122, Bool.not_true, Bool.not_false, cond_true, cond_false]) ?_
                  refine AWp.skip ?_
                  refine nT ?_
                  refine AWp.seq ?_
                  refine AWp.block ?_
                  refine AWp.seq ?_
                  refine AWp.rg hT hA {} (by (repeat (cbv; simp only [c122])); first | done | cbv) (lb rfl) ?_
                  refine nT ?_
                  refine AWp.seq ?_
                  refine AWp.rg hT hA {} (by (repeat (cbv; simp only [c122])); first | done | cbv) (lb rfl) ?_
                  refine nT ?_
                  obtain ⟨v126, hvK127, hsK129⟩ := bindS hsK129
                  refine AWp.cutN [2, 3, 4, 6, 7, 9, 42, 43, 44, 79, 80] [] 2 (lb rfl) (fun τ => τ = { env := [(2, (.lbox [(.d (.int .i64 x1)), (.d (.list 3 x2))])), (3, (.ptr 0 0)), (4, (.lbox [(.d (.int .i64 0)), (.own 3 [])])), (6, (.ptr 1 0)), (7, (.func 102 [] [(.ptr 0 0), (.ptr 1 0)])), (9, (.lbox [(.d (.int .i64 a74)), (.d (.int .i64 a75)), (.d (.int .i64 a76))])), (42, (.d (.list 3 x2))), (43, (.d (.int .i64 (A.len x2)))), (44, (.d (.int .i64 v71))), (79, (.d (.int .i64 x3))), (80, (.d (.int .i64 v120)))], heap := [(.cells [(.d (.int .i64 x3)), (.d (.list 3 x4))]), (.cells [(.d (.int .i64 (A.wrp .i64 (A.zmul x1 x3)))), (.own 3 v126)])], n := 130 }) ?_ ?_
                  · skip
                    rcases tf (A.zeq a75 0) with c123 | c123
                    · replace hvK127 := cT c123 hvK127
                      refine AWp.cdT rfl (by first | rfl | simp only [c122, c123, Bool.not_true, Bool.not_false, cond_true, cond_false]) ?_
                      refine AWp.region ?_
                      obtain ⟨r125, e124, hvK127⟩ := bindS hvK127
                      refine AOps.cc hT hA {} (by (repeat (cbv; simp only [c122, c123])); first | done | cbv) (lb rfl) (R102w hA e124) rfl (.inl rfl) rfl rfl rfl (lb rfl) rfl rfl ?_
                      refine AOps.cd hT hA {} (by (repeat (cbv; simp only [c122, c123])); first | done | cbv) (lb rfl) ?_
                      cases soI hvK127
                      exact oNi ⟨rfl, (by first | (cbv; done) | ((repeat (cbv; simp only [c122, c123])); first | done | cbv))⟩
                    · replace hvK127 := cF c123 hvK127
                      refine AWp.cdF rfl (by first | rfl | simp only [c122, c123, Bool.not_true, Bool.not_false, cond_true, cond_false]) ?_
                      refine AWp.skip ?_
                      cases soI hvK127
                      exact oNi ⟨rfl, (by first | (cbv; done) | ((repeat (cbv; simp only [c122, c123])); first | done | cbv))⟩
                  · rintro _ rfl
                    refine nB ?_
                    refine nT ?_
                    refine AWp.rg hT hA {} (by cbv) (lb rfl) ?_
                    exact nT ⟨_, (soI hsK129).symm, rfl, (by cbv)⟩
                · replace hsK129 := cF c122 hsK129
                  refine AWp.cdF rfl (by first | rfl | simp only [c122, Bool.not_true, Bool.not_false, cond_true, cond_false]) ?_
                  refine AWp.exit ?_
                  refine xT ?_
                  refine xT ?_
                  refine exL hsK129 fun hx => ?_
                  subst hx
                  exact oxI ⟨rfl, _, hkK129, (by first | (cbv; done) | ((repeat (cbv; simp only [c122])); first | done | cbv))⟩
              · rintro _ ⟨v128, hkK129, rfl⟩
                have hsK131 := (hK129 _ hkK129)
                refine xB ?_
                refine nB ?_
                refine nT ?_
                refine AWp.rg hT hA {} (by cbv) (lb rfl) ?_
                exact nT ⟨_, (soI hsK131).symm, rfl, (by cbv)⟩
          · replace hsK131 := cF c73 hsK131
            refine AWp.cdF rfl (by first | rfl | simp only [c73, Bool.not_true, Bool.not_false, cond_true, cond_false]) ?_
            refine AWp.exit ?_
            refine xT ?_
            refine xT ?_
            refine exL hsK131 fun hx => ?_
            subst hx
            exact oxI ⟨rfl, _, hkK131, (by first | (cbv; done) | ((repeat (cbv; simp only [c73])); first | done | cbv))⟩
        · rintro _ ⟨v130, hkK131, rfl⟩
          have h := (hK131 _ hkK131)
          refine xB ?_
          refine nT ?_
          refine AWpR.seq ?_
          refine AWpT.of ?_
          refine AWp.seq ?_
          refine AWp.rg hT hA {} (by cbv) (lb rfl) ?_
          refine nT ?_
          refine AWp.block ?_
          obtain ⟨xK181, hxK181, K181, hK181, hkK181⟩ := bindK h
          refine AWp.cutX 7 [4, 6] [] 2 (lb rfl) (fun τ => ∃ v180, K181 v180 = some (v192, v193, v194) ∧ τ = { env := [(4, (.lbox [(.d (.int .i64 0)), (.own 3 [])])), (6, (.ptr 1 0))], heap := [(.cells [(.d (.int .i64 x3)), (.d (.list 3 x4))]), (.cells [(.d (.int .i64 (A.wrp .i64 (A.zmul x1 x3)))), (.own 3 v180)])], n := 130 }) ?_ ?_
          · skip
            refine AWp.iter hxK181 [2, 4, 6, 7, 97, 98, 99] [] 2 (lb rfl) (fun (v155, v156) => { env := [(2, (.lbox [(.d (.int .i64 x1)), (.d (.list 3 x2))])), (4, (.lbox [(.d (.int .i64 0)), (.own 3 [])])), (6, (.ptr 1 0)), (7, (.func 102 [] [(.ptr 0 0), (.ptr 1 0)])), (97, (.d (.list 3 x4))), (98, (.d (.int .i64 (A.len x4)))), (99, (.d (.int .i64 v155)))], heap := [(.cells [(.d (.int .i64 x3)), (.d (.list 3 x4))]), (.cells [(.d (.int .i64 (A.wrp .i64 (A.zmul x1 x3)))), (.own 3 v156)])], n := 130 }) ⟨rfl, (by cbv)⟩ ?_
            rintro ⟨v155, v156⟩ eK181 hsK181
            dsimp only [R56L4] at hsK181
            refine AWp.seq ?_
            refine AWp.rg hT hA {} (by cbv) (lb rfl) ?_
            refine nT ?_
            refine AWp.seq ?_
            rcases tf (A.zlt v155 (A.len x4)) with c157 | c157
            · replace hsK181 := cT c157 hsK181
              refine AWp.cdT rfl (by first | rfl | simp only [c157, Bool.not_true, Bool.not_false, cond_true, cond_false]) ?_
              refine AWp.skip ?_
              refine nT ?_
              refine AWp.seq ?_
              refine AWp.block ?_
              refine AWp.seq ?_
              obtain ⟨⟨a158, a159, a160⟩, e161, hsK181⟩ := bindS hsK181
              obtain ⟨f162, f163⟩ := gtI e161
              refine AWp.rg hT hA { tk := [102] } (by (repeat (cbv; simp only [c157, f162, f163])); first | done | cbv) (lb rfl) ?_
              refine nT ?_
              refine AWp.seq ?_
              refine AWp.rg hT hA {} (by (repeat (cbv; simp only [c157])); first | done | cbv) (lb rfl) ?_
              refine nT ?_
              refine AWp.block ?_
              obtain ⟨xK179, hxK179, K179, hK179, hkK179⟩ := bindK hsK181
              refine AWp.cutX 9 [2, 4, 6, 7, 97, 98, 99] [] 2 (lb rfl) (fun τ => ∃ v178, K179 v178 = some eK181 ∧ τ = { env := [(2, (.lbox [(.d (.int .i64 x1)), (.d (.list 3 x2))])), (4, (.lbox [(.d (.int .i64 0)), (.own 3 [])])), (6, (.ptr 1 0)), (7, (.func 102 [] [(.ptr 0 0), (.ptr 1 0)])), (97, (.d (.list 3 x4))), (98, (.d (.int .i64 (A.len x4)))), (99, (.d (.int .i64 v155)))], heap := [(.cells [(.d (.int .i64 x3)), (.d (.list 3 x4))]), (.cells [(.d (.int .i64 (A.wrp .i64 (A.zmul x1 x3)))), (.own 3 v178)])], n := 130 }) ?_ ?_
              · skip
                refine AWp.iter hxK179 [2, 4, 6, 7, 14, 97, 98, 99, 104, 105] [] 2 (lb rfl) (fun (v170, v171) => { env := [(2, (.lbox [(.d (.int .i64 x1)), (.d (.list 3 x2))])), (4, (.lbox [(.d (.int .i64 0)), (.own 3 [])])), (6, (.ptr 1 0)), (7, (.func 102 [] [(.ptr 0 0), (.ptr 1 0)])), (14, (.lbox [(.d (.int .i64 a158)), (.d (.int .i64 a159)), (.d (.int .i64 a160))])), (97, (.d (.list 3 x4))), (98, (.d (.int .i64 (A.len x4)))), (99, (.d (.int .i64 v155))), (104, (.d (.int .i64 x1))), (105, (.d (.int .i64 v170)))], heap := [(.cells [(.d (.int .i64 x3)), (.d (.list 3 x4))]), (.cells [(.d (.int .i64 (A.wrp .i64 (A.zmul x1 x3)))), (.own 3 v171)])], n := 130 }) ⟨rfl, (by first | (cbv; done) | ((repeat (cbv; simp only [c157])); first | done | cbv))⟩ ?_
                rintro ⟨v170, v171⟩ eK179 hsK179
                dsimp only [R56L3] at hsK179
                refine AWp.seq ?_
                refine AWp.rg hT hA {} (by cbv) (lb rfl) ?_
                refine nT ?_
                refine AWp.seq ?_
                rcases tf (A.zlt v170 x1) with c172 | c172
                · replace hsK179 := cT c172 hsK179
                  refine AWp.cdT rfl (by first | rfl | simp only [c172, Bool.not_true, Bool.not_false, cond_true, cond_false]) ?_
                  refine AWp.skip ?_
                  refine nT ?_
                  refine AWp.seq ?_
                  refine AWp.block ?_
                  refine AWp.seq ?_
                  refine AWp.rg hT hA {} (by (repeat (cbv; simp only [c172])); first | done | cbv) (lb rfl) ?_
                  refine nT ?_
                  refine AWp.seq ?_
                  refine AWp.rg hT hA {} (by (repeat (cbv; simp only [c172])); first | done | cbv) (lb rfl) ?_
                  refine nT ?_
                  obtain ⟨v176, hvK177, hsK179⟩ := bindS hsK179
                  refine AWp.cutN [2, 4, 6, 7, 14, 97, 98, 99, 104, 105] [] 2 (lb rfl) (fun τ => τ = { env := [(2, (.lbox [(.d (.int .i64 x1)), (.d (.list 3 x2))])), (4, (.lbox [(.d (.int .i64 0)), (.own 3 [])])), (6, (.ptr 1 0)), (7, (.func 102 [] [(.ptr 0 0), (.ptr 1 0)])), (14, (.lbox [(.d (.int .i64 a158)), (.d (.int .i64 a159)), (.d (.int .i64 a160))])), (97, (.d (.list 3 x4))), (98, (.d (.int .i64 (A.len x4)))), (99, (.d (.int .i64 v155))), (104, (.d (.int .i64 x1))), (105, (.d (.int .i64 v170)))], heap := [(.cells [(.d (.int .i64 x3)), (.d (.list 3 x4))]), (.cells [(.d (.int .i64 (A.wrp .i64 (A.zmul x1 x3)))), (.own 3 v176)])], n := 130 }) ?_ ?_
                  · skip
                    rcases tf (A.zeq a159 0) with c173 | c173
                    · replace hvK177 := cT c173 hvK177
                      refine AWp.cdT rfl (by first | rfl | simp only [c172, c173, Bool.not_true, Bool.not_false, cond_true, cond_false]) ?_
                      refine AWp.region ?_
                      obtain ⟨r175, e174, hvK177⟩ := bindS hvK177
                      refine AOps.cc hT hA {} (by (repeat (cbv; simp only [c172, c173])); first | done | cbv) (lb rfl) (R102w hA e174) rfl (.inl rfl) rfl rfl rfl (lb rfl) rfl rfl ?_
                      refine AOps.cd hT hA {} (by (repeat (cbv; simp only [c172, c173])); first | done | cbv) (lb rfl) ?_
                      cases soI hvK177
                      exact oNi ⟨rfl, (by first | (cbv; done) | ((repeat (cbv; simp only [c172, c173])); first | done | cbv))⟩
                    · replace hvK177 := cF c173 hvK177
                      refine AWp.cdF rfl (by first | rfl | simp only [c172, c173, Bool.not_true, Bool.not_false, cond_true, cond_false]) ?_
                      refine AWp.skip ?_
                      cases soI hvK177
                      exact oNi ⟨rfl, (by first | (cbv; done) | ((repeat (cbv; simp only [c172, c173])); first | done | cbv))⟩
                  · rintro _ rfl
                    refine nB ?_
                    refine nT ?_
                    refine AWp.rg hT hA {} (by cbv) (lb rfl) ?_
                    exact nT ⟨_, (soI hsK179).symm, rfl, (by cbv)⟩
                · replace hsK179 := cF c172 hsK179
                  refine AWp.cdF rfl (by first | rfl | simp only [c172, Bool.not_true, Bool.not_false, cond_true, cond_false]) ?_
                  refine AWp.exit ?_
                  refine xT ?_
                  refine xT ?_
                  refine exL hsK179 fun hx => ?_
                  subst hx
                  exact oxI ⟨rfl, _, hkK179, (by first | (cbv; done) | ((repeat (cbv; simp only [c172])); first | done | cbv))⟩
              · rintro _ ⟨v178, hkK179, rfl⟩
                have hsK181 := (hK179 _ hkK179)
                refine xB ?_
                refine nB ?_
                refine nT ?_
                refine AWp.rg hT hA {} (by cbv) (lb rfl) ?_
                exact nT ⟨_, (soI hsK181).symm, rfl, (by cbv)⟩
            · replace hsK181 := cF c157 hsK181
              refine AWp.cdF rfl (by first | rfl | simp only [c157, Bool.not_true, Bool.not_false, cond_true, cond_false]) ?_
              refine AWp.exit ?_
              refine xT ?_
              refine xT ?_
              refine exL hsK181 fun hx => ?_
              subst hx
              exact oxI ⟨rfl, _, hkK181, (by first | (cbv; done) | ((repeat (cbv; simp only [c157])); first | done | cbv))⟩
          · rintro _ ⟨v180, hkK181, rfl⟩
            have h := (hK181 _ hkK181)
            refine xB ?_
            refine nT ?_
            refine AWpR.seq ?_
            refine AWpT.of ?_
            refine AWp.seq ?_
            refine AWp.rg hT hA {} (by cbv) (lb rfl) ?_
            refine nT ?_
            rcases tf (A.zlt 24 (A.len v180)) with c182 | c182
            · replace h := cT c182 h
              refine AWp.cdT rfl (by first | rfl | simp only [c182, Bool.not_true, Bool.not_false, cond_true, cond_false]) ?_
              refine AWp.seq ?_
              refine AWp.rg hT hA { tk := [125], nl := [125] } (by (repeat (cbv; simp only [c182])); first | done | cbv) (lb rfl) ?_
              refine nT ?_
              refine AWp.ret ?_
              refine rT ?_
              cases soI h
              exact ⟨rfl, rfl, rfl, lb rfl, _, rfl⟩
            · replace h := cF c182 h
              refine AWp.cdF rfl (by first | rfl | simp only [c182, Bool.not_true, Bool.not_false, cond_true, cond_false]) ?_
              refine AWp.skip ?_
              refine nT ?_
              refine AWpR.seq2 ?_
              rcases tf (A.zlt 0 (A.len v180)) with c183 | c183
              · replace h := cT c183 h
                obtain ⟨_, e184, h⟩ := bindS h
                refine AWpR.thawC [4, 6] 1 1 rfl rfl (neL hA c183) (ckI e184) (lenL hA) rfl rfl (show AWpR _ _ _ { env := [(4, (.lbox [(.d (.int .i64 0)), (.own 3 [])])), (6, (.ptr 1 0))], heap := [.dead, (.cells [(.d (.int .i64 (A.wrp .i64 (A.zmul x1 x3)))), (.mref 2 3 0 (A.len v180))]), (.arr 3 v180)], n := 130 } from ?_)
                refine AWpR.of ?_
                refine AWpT.of ?_
                refine AWp.region ?_
                obtain ⟨r187, e186, h⟩ := bindS h
                refine AOps.cc hT hA {} (by (repeat (cbv; simp only [c182, c183])); first | done | cbv) (lb rfl) (R103aw hA e186) rfl (.inl rfl) rfl rfl rfl (lb rfl) rfl rfl ?_
                refine AOps.cd hT hA {} (by (repeat (cbv; simp only [c182, c183])); first | done | cbv) (lb rfl) ?_
                refine nT ?_
                refine AWpR.of ?_
                refine AWpT.of ?_
                refine AWp.seq ?_
                obtain ⟨l188, e189, h⟩ := bindS h
                obtain ⟨f190, f191⟩ := fzI hA e189
                refine AWp.freezeC 1 1 rfl rfl rfl f190 f191 ?_
                refine AWp.rg hT hA { tk := [129] } (by (repeat (cbv; simp only [c182, c183])); first | done | cbv) (lb rfl) ?_
                refine nT ?_
                refine AWp.ret ?_
                cases soI h
                exact ⟨rfl, rfl, rfl, lb rfl, _, rfl⟩
              · replace h := cF c183 h
                refine AWpR.of ?_
                refine AWpT.of ?_
                refine AWp.region ?_
                obtain ⟨_, e185, h⟩ := bindS h
                refine AOps.cc hT hA {} (by (repeat (cbv; simp only [c182, c183])); first | done | cbv) (lb rfl) (R103w hA e185) rfl (.inr rfl) rfl rfl rfl (lb rfl) rfl rfl ?_
                refine AOps.cd hT hA {} (by (repeat (cbv; simp only [c182, c183])); first | done | cbv) (lb rfl) ?_
                refine nT ?_
                refine AWpR.of ?_
                refine AWpT.of ?_
                refine AWp.seq ?_
                refine AWp.rg hT hA { tk := [129] } (by (repeat (cbv; simp only [c182, c183])); first | done | cbv) (lb rfl) ?_
                refine nT ?_
                refine AWp.ret ?_
                cases soI h
                exact ⟨rfl, rfl, rfl, lb rfl, _, rfl⟩
end Go.Am
