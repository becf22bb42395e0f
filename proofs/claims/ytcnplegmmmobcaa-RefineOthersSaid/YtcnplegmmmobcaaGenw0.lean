/- Own text: Genw0. -/
import Derived.Test.YtcnplegmmmobcaaGenp0
import Derived.Test.YtcnplegmmmobcaaAmLaw
import Derived.Test.YtcnplegmmmobcaaAmRoll
import Derived.Test.YtcnplegmmmobcaaAmRoll
import Derived.Test.YtcnplegmmmobcaaAmSortK
import Derived.Test.YtcnplegmmmobcaaR1T
import Derived.Test.YtcnplegmmmobcaaR1B
import Derived.Test.YtcnplegmmmobcaaR1S
set_option maxRecDepth 100000
set_option maxHeartbeats 2000000
set_option linter.unusedVariables false
set_option linter.unusedSimpArgs false
namespace Go.Am
open Go Go.Proofs
theorem R16w {A : Ar} (hA : A = Ar.std) {x1 : Int} {x2 : List D} {v3 : Bool} (h : R16 A x1 x2 = some v3) : ACall Try.prog 16 [(.d (.agg [(.int .i64 x1), (.list 3 x2)]))] [] (.d (.bool v3)) [] := by
  unfold R16 at h
  refine ACall.enter hT (fn := Try.f16) Try.func16 rfl (by decide) (by simp [Try.f16]) rfl rfl rfl rfl (lb rfl) ?_
  refine AWp.seq ?_
  refine AWp.rg hT hA {} (by cbv) (lb rfl) ?_
  refine nT ?_
  refine AWp.seq ?_
  refine AWp.rg hT hA { tk := [6] } (by cbv) (lb rfl) ?_
  refine nT ?_
  refine AWp.ret ?_
  cases soI h
  exact ⟨rfl, rfl, rfl, lb rfl, _, rfl⟩

theorem R65w {A : Ar} (hA : A = Ar.std) {x1 : Int} {x2 : Int} {x3 : Int} {v7 : Bool} (h : R65 A x1 x2 x3 = some v7) : ACall Try.prog 65 [(.d (.int .i64 x1)), (.d (.int .i64 x2)), (.d (.int .i64 x3))] [] (.d (.bool v7)) [] := by
  unfold R65 at h
  refine ACall.enter hT (fn := Try.f65) Try.func65 rfl (by decide) (by simp [Try.f65]) rfl rfl rfl rfl (lb rfl) ?_
  refine AWp.seq ?_
  refine AWp.rg hT hA {} (by cbv) (lb rfl) ?_
  refine nT ?_
  refine AWp.seq ?_
  obtain ⟨v5, hvK6, h⟩ := bindS h
  refine AWp.cutN [6] [] 0 (lb rfl) (fun τ => τ = { env := [(6, (.d (.bool v5)))], heap := [], n := 15 }) ?_ ?_
  · skip
    rcases tf (A.zle x1 x2) with c4 | c4
    · replace hvK6 := cT c4 hvK6
      refine AWp.rg hT hA { tk := [14] } (by (repeat (cbv; simp only [c4])); first | done | cbv) (lb rfl) ?_
      cases soI hvK6
      exact oNi ⟨rfl, (by first | (cbv; done) | ((repeat (cbv; simp only [c4])); first | done | cbv))⟩
    · replace hvK6 := cF c4 hvK6
      refine AWp.rg hT hA { tk := [14] } (by (repeat (cbv; simp only [c4])); first | done | cbv) (lb rfl) ?_
      cases soI hvK6
      exact oNi ⟨rfl, (by first | (cbv; done) | ((repeat (cbv; simp only [c4])); first | done | cbv))⟩
  · rintro _ rfl
    refine nT ?_
    refine AWp.ret ?_
    cases soI h
    exact ⟨rfl, rfl, rfl, lb rfl, _, rfl⟩

theorem R79w {A : Ar} (hA : A = Ar.std) {x1 : Int} {x2 : Int} {x3 : List D} {v6 : Bool} (h : R79 A x1 x2 x3 = some v6) : ACall Try.prog 79 [(.d (.int .i64 x1)), (.ptr 0 0)] [(.cells [(.d (.int .i64 x2)), (.d (.list 3 x3))])] (.d (.bool v6)) [(.cells [(.d (.int .i64 x2)), (.d (.list 3 x3))])] := by
  unfold R79 at h
  refine ACall.enter hT (fn := Try.f79) Try.func79 rfl (by decide) (by simp [Try.f79]) rfl rfl rfl rfl (lb rfl) ?_
  refine AWp.seq ?_
  refine AWp.rg hT hA {} (by cbv) (lb rfl) ?_
  refine nT ?_
  refine AWp.seq ?_
  refine AWp.region ?_
  obtain ⟨r5, e4, h⟩ := bindS h
  refine AOps.cc hT hA { tk := [8] } (by cbv) (lb rfl) (R65w hA e4) rfl (.inr rfl) rfl rfl rfl (lb rfl) rfl rfl ?_
  refine AOps.cd hT hA { tk := [8] } (by cbv) (lb rfl) ?_
  refine nT ?_
  refine AWp.ret ?_
  cases soI h
  exact ⟨rfl, rfl, rfl, lb rfl, _, rfl⟩

theorem R33w {A : Ar} (hA : A = Ar.std) {x1 : Int} {x2 : List D} {v59 : Bool} (h : R33 A x1 x2 = some v59) : ACall Try.prog 33 [(.d (.agg [(.int .i64 x1), (.list 3 x2)]))] [] (.d (.bool v59)) [] := by
  unfold R33 at h
  refine ACall.enter hT (fn := Try.f33) Try.func33 rfl (by decide) (by simp [Try.f33]) rfl rfl rfl rfl (lb rfl) ?_
  refine AWp.seq ?_
  refine AWp.rg hT hA { esc := [1] } (by cbv) (lb rfl) ?_
  refine nT ?_
  refine AWp.seq ?_
  refine AWp.rg hT hA {} (by cbv) (lb rfl) ?_
  refine nT ?_
  refine AWp.seq ?_
  refine AWp.rg hT hA {} (by cbv) (lb rfl) ?_
  refine nT ?_
  refine AWp.seq ?_
  refine AWp.seq ?_
  refine AWp.rg hT hA {} (by cbv) (lb rfl) ?_
  refine nT ?_
  refine AWp.block ?_
  obtain ⟨xK53, hxK53, K53, hK53, hkK53⟩ := bindK h
  refine AWp.cutX 0 [1] [] 2 (lb rfl) (fun τ => ∃ v51, K53 (.inl v51) = some v59 ∧ τ = { env := [(1, (.ptr 0 0))], heap := [(.cells [(.d (.int .i64 x1)), (.d (.list 3 x2))]), (.map true [.int .i64, .int .i64, .int .i64] v51)], n := 51 }) ?_ ?_
  · skip
    refine AWp.iter hxK53 [1, 3, 4, 10, 11, 12] [] 2 (lb rfl) (fun (v26, v27) => { env := [(1, (.ptr 0 0)), (3, (.func 79 [] [(.ptr 0 0)])), (4, (.map 1)), (10, (.d (.list 3 x2))), (11, (.d (.int .i64 (A.len x2)))), (12, (.d (.int .i64 v26)))], heap := [(.cells [(.d (.int .i64 x1)), (.d (.list 3 x2))]), (.map true [.int .i64, .int .i64, .int .i64] v27)], n := 51 }) ⟨rfl, (by cbv)⟩ ?_
    rintro ⟨v26, v27⟩ eK53 hsK53
    dsimp only [R33L0] at hsK53
    refine AWp.seq ?_
    refine AWp.rg hT hA {} (by cbv) (lb rfl) ?_
    refine nT ?_
    refine AWp.seq ?_
    rcases tf (A.zlt v26 (A.len x2)) with c28 | c28
    · replace hsK53 := cT c28 hsK53
      refine AWp.cdT rfl (by first | rfl | simp only [c28, Bool.not_true, Bool.not_false, cond_true, cond_false]) ?_
      refine AWp.skip ?_
      refine nT ?_
      refine AWp.seq ?_
      refine AWp.block ?_
      refine AWp.seq ?_
      obtain ⟨⟨a29, a30, a31⟩, e32, hsK53⟩ := bindS hsK53
      obtain ⟨f33, f34⟩ := gtI e32
      refine AWp.rg hT hA { tk := [15] } (by (repeat (cbv; simp only [c28, f33, f34])); first | done | cbv) (lb rfl) ?_
      refine nT ?_
      refine AWp.seq ?_
      refine AWp.seq ?_
      obtain ⟨v48, hvK49, hsK53⟩ := bindS hsK53
      refine AWp.cutN [1, 3, 4, 6, 10, 11, 12, 38] [] 2 (lb rfl) (fun τ => τ = { env := [(1, (.ptr 0 0)), (3, (.func 79 [] [(.ptr 0 0)])), (4, (.map 1)), (6, (.lbox [(.d (.int .i64 a29)), (.d (.int .i64 a30)), (.d (.int .i64 a31))])), (10, (.d (.list 3 x2))), (11, (.d (.int .i64 (A.len x2)))), (12, (.d (.int .i64 v26))), (38, (.d (.bool v48)))], heap := [(.cells [(.d (.int .i64 x1)), (.d (.list 3 x2))]), (.map true [.int .i64, .int .i64, .int .i64] v27)], n := 51 }) ?_ ?_
      · skip
        refine AWp.region ?_
        obtain ⟨r36, e35, hvK49⟩ := bindS hvK49
        refine AOps.cc hT hA {} (by (repeat (cbv; simp only [c28])); first | done | cbv) (lb rfl) (R79w hA e35) rfl (.inr rfl) rfl rfl rfl (lb rfl) rfl rfl ?_
        rcases tf r36 with c37 | c37
        · replace hvK49 := cT c37 hvK49
          obtain ⟨r39, e38, hvK49⟩ := bindS hvK49
          refine AOps.cc hT hA {} (by (repeat (cbv; simp only [c28, c37])); first | done | cbv) (lb rfl) (R79w hA e38) rfl (.inr rfl) rfl rfl rfl (lb rfl) rfl rfl ?_
          rcases tf r39 with c40 | c40
          · replace hvK49 := cT c40 hvK49
            obtain ⟨r42, e41, hvK49⟩ := bindS hvK49
            refine AOps.cc hT hA {} (by (repeat (cbv; simp only [c28, c37, c40])); first | done | cbv) (lb rfl) (R65w hA e41) rfl (.inr rfl) rfl rfl rfl (lb rfl) rfl rfl ?_
            rcases tf r42 with c43 | c43
            · replace hvK49 := cT c43 hvK49
              obtain ⟨o47, e45, hvK49⟩ := bindS hvK49
              rcases o47 with _ | a44
              · have f46 := lkN e45
                refine AOps.cd hT hA {} (by (repeat (cbv; simp only [c28, c37, c40, c43, f46])); first | done | cbv) (lb rfl) ?_
                cases soI hvK49
                exact oNi ⟨rfl, (by first | (cbv; done) | ((repeat (cbv; simp only [c28, c37, c40, c43])); first | done | cbv))⟩
              · have f46 := lkS e45
                refine AOps.cd hT hA {} (by (repeat (cbv; simp only [c28, c37, c40, c43, f46])); first | done | cbv) (lb rfl) ?_
                cases soI hvK49
                exact oNi ⟨rfl, (by first | (cbv; done) | ((repeat (cbv; simp only [c28, c37, c40, c43])); first | done | cbv))⟩
            · replace hvK49 := cF c43 hvK49
              refine AOps.cd hT hA {} (by (repeat (cbv; simp only [c28, c37, c40, c43])); first | done | cbv) (lb rfl) ?_
              cases soI hvK49
              exact oNi ⟨rfl, (by first | (cbv; done) | ((repeat (cbv; simp only [c28, c37, c40, c43])); first | done | cbv))⟩
          · replace hvK49 := cF c40 hvK49
            refine AOps.cd hT hA {} (by (repeat (cbv; simp only [c28, c37, c40])); first | done | cbv) (lb rfl) ?_
            cases soI hvK49
            exact oNi ⟨rfl, (by first | (cbv; done) | ((repeat (cbv; simp only [c28, c37, c40])); first | done | cbv))⟩
        · replace hvK49 := cF c37 hvK49
          refine AOps.cd hT hA {} (by (repeat (cbv; simp only [c28, c37])); first | done | cbv) (lb rfl) ?_
          cases soI hvK49
          exact oNi ⟨rfl, (by first | (cbv; done) | ((repeat (cbv; simp only [c28, c37])); first | done | cbv))⟩
      · rintro _ rfl
        refine nT ?_
        rcases tf v48 with c50 | c50
        · replace hsK53 := cT c50 hsK53
          refine AWp.cdT rfl (by first | rfl | simp only [c50, Bool.not_true, Bool.not_false, cond_true, cond_false]) ?_
          refine AWp.seq ?_
          refine AWp.rg hT hA {} (by (repeat (cbv; simp only [c50])); first | done | cbv) (lb rfl) ?_
          refine nT ?_
          refine AWp.ret ?_
          refine rT ?_
          refine rB ?_
          refine rT ?_
          refine rT ?_
          refine exL hsK53 fun hx => ?_
          subst hx
          refine oxR ?_
          replace hkK53 := (eR (hK53 _ hkK53))
          refine rB ?_
          refine rT ?_
          cases soI hkK53
          exact ⟨rfl, rfl, rfl, lb rfl, _, rfl⟩
        · replace hsK53 := cF c50 hsK53
          refine AWp.cdF rfl (by first | rfl | simp only [c50, Bool.not_true, Bool.not_false, cond_true, cond_false]) ?_
          refine AWp.skip ?_
          refine nT ?_
          refine AWp.rg hT hA {} (by (repeat (cbv; simp only [c50])); first | done | cbv) (lb rfl) ?_
          refine nB ?_
          refine nT ?_
          refine AWp.rg hT hA {} (by (repeat (cbv; simp only [c50])); first | done | cbv) (lb rfl) ?_
          exact nT ⟨_, (soI hsK53).symm, rfl, (by first | (cbv; done) | ((repeat (cbv; simp only [c50])); first | done | cbv))⟩
    · replace hsK53 := cF c28 hsK53
      refine AWp.cdF rfl (by first | rfl | simp only [c28, Bool.not_true, Bool.not_false, cond_true, cond_false]) ?_
      refine AWp.exit ?_
      refine xT ?_
      refine xT ?_
      refine exL hsK53 fun hx => ?_
      subst hx
      exact oxI ⟨rfl, _, hkK53, (by first | (cbv; done) | ((repeat (cbv; simp only [c28])); first | done | cbv))⟩
  · rintro _ ⟨v51, hkK53, rfl⟩
    have h := (eL (hK53 _ hkK53))
    refine xB ?_
    refine nT ?_
    refine AWp.seq ?_
    obtain ⟨v57, hvK58, h⟩ := bindS h
    refine AWp.cutN [2] [] 2 (lb rfl) (fun τ => τ = { env := [(2, (.d (.bool v57)))], heap := [(.cells [(.d (.int .i64 x1)), (.d (.list 3 x2))]), (.map true [.int .i64, .int .i64, .int .i64] v51)], n := 51 }) ?_ ?_
    · skip
      refine AWp.region ?_
      obtain ⟨r55, e54, hvK58⟩ := bindS hvK58
      refine AOps.cc hT hA { tk := [50] } (by cbv) (lb rfl) (R65w hA e54) rfl (.inr rfl) rfl rfl rfl (lb rfl) rfl rfl ?_
      rcases tf r55 with c56 | c56
      · replace hvK58 := cT c56 hvK58
        refine AOps.cd hT hA { tk := [50] } (by (repeat (cbv; simp only [c56])); first | done | cbv) (lb rfl) ?_
        cases soI hvK58
        exact oNi ⟨rfl, (by first | (cbv; done) | ((repeat (cbv; simp only [c56])); first | done | cbv))⟩
      · replace hvK58 := cF c56 hvK58
        refine AOps.cd hT hA { tk := [50] } (by (repeat (cbv; simp only [c56])); first | done | cbv) (lb rfl) ?_
        cases soI hvK58
        exact oNi ⟨rfl, (by first | (cbv; done) | ((repeat (cbv; simp only [c56])); first | done | cbv))⟩
    · rintro _ rfl
      refine nT ?_
      refine AWp.ret ?_
      cases soI h
      exact ⟨rfl, rfl, rfl, lb rfl, _, rfl⟩

theorem R95w {A : Ar} (hA : A = Ar.std) {x r : Int} (h : tz8 A x = some r) : ACall Try.prog 95 [.d (.int .u8 x)] [] (.d (.int .i64 r)) [] := by
  obtain ⟨h0, h1, rfl⟩ := bitI hA h
  exact ACall.ofInt rfl (fun w => Try.bits_TrailingZeros8 x w h0 h1)

theorem R76w {A : Ar} (hA : A = Ar.std) {x1 : Int} {v20 : List D} (h : R76 A x1 = some v20) : ACall Try.prog 76 [(.d (.int .u8 x1))] [] (.own 1 v20) [] := by
  unfold R76 at h
  refine ACall.enter hT (fn := Try.f76) Try.func76 rfl (by decide) (by simp [Try.f76]) rfl rfl rfl rfl (lb rfl) ?_
  refine AWp.seq ?_
  refine AWp.rg hT hA {} (by cbv) (lb rfl) ?_
  refine nT ?_
  refine AWp.seq ?_
  refine AWp.rg hT hA {} (by cbv) (lb rfl) ?_
  refine nT ?_
  refine AWp.seq ?_
  refine AWp.block ?_
  obtain ⟨xK19, hxK19, K19, hK19, hkK19⟩ := bindK h
  refine AWp.cutX 0 [3] [] 0 (lb rfl) (fun τ => ∃ v18, K19 v18 = some v20 ∧ τ = { env := [(3, (.own 1 v18))], heap := [], n := 16 }) ?_ ?_
  · skip
    refine AWp.iter hxK19 [0, 3] [] 0 (lb rfl) (fun (v9, v10) => { env := [(0, (.d (.int .u8 v9))), (3, (.own 1 v10))], heap := [], n := 16 }) ⟨rfl, (by cbv)⟩ ?_
    rintro ⟨v9, v10⟩ eK19 hsK19
    dsimp only [R76L0] at hsK19
    refine AWp.seq ?_
    refine AWp.seq ?_
    refine AWp.rg hT hA {} (by cbv) (lb rfl) ?_
    refine nT ?_
    rcases tf (A.zeq v9 0) with c11 | c11
    · replace hsK19 := cT c11 hsK19
      refine AWp.cdF rfl (by first | rfl | simp only [c11, Bool.not_true, Bool.not_false, cond_true, cond_false]) ?_
      refine AWp.exit ?_
      refine xT ?_
      refine xT ?_
      refine exL hsK19 fun hx => ?_
      subst hx
      exact oxI ⟨rfl, _, hkK19, (by first | (cbv; done) | ((repeat (cbv; simp only [c11])); first | done | cbv))⟩
    · replace hsK19 := cF c11 hsK19
      refine AWp.cdT rfl (by first | rfl | simp only [c11, Bool.not_true, Bool.not_false, cond_true, cond_false]) ?_
      refine AWp.skip ?_
      refine nT ?_
      refine AWp.seq ?_
      refine AWp.block ?_
      refine AWp.region ?_
      obtain ⟨r13, e12, hsK19⟩ := bindS hsK19
      refine AOps.cc hT hA { tk := [3, 14] } (by (repeat (cbv; simp only [c11])); first | done | cbv) (lb rfl) (R95w hA e12) rfl (.inl rfl) rfl rfl rfl (lb rfl) rfl rfl ?_
      obtain ⟨l14, e15, hsK19⟩ := bindS hsK19
      obtain ⟨f16, f17⟩ := apI e15
      refine AOps.cd hT hA { tk := [3, 14] } (by (repeat (cbv; simp only [c11, f16, f17])); first | done | cbv) (lb rfl) ?_
      refine nB ?_
      refine nT ?_
      refine AWp.rg hT hA {} (by (repeat (cbv; simp only [c11])); first | done | cbv) (lb rfl) ?_
      exact nT ⟨_, (soI hsK19).symm, rfl, (by first | (cbv; done) | ((repeat (cbv; simp only [c11])); first | done | cbv))⟩
  · rintro _ ⟨v18, hkK19, rfl⟩
    have h := (hK19 _ hkK19)
    refine xB ?_
    refine nT ?_
    refine AWp.seq ?_
    refine AWp.rg hT hA { tk := [3, 15] } (by cbv) (lb rfl) ?_
    refine nT ?_
    refine AWp.ret ?_
    cases soI h
    exact ⟨rfl, rfl, rfl, lb rfl, _, rfl⟩

theorem R68w {A : Ar} (hA : A = Ar.std) {x1 : Int} {x2 : Int} {x3 : List D} {v42 : Int} (h : R68 A x1 x2 x3 = some v42) : ACall Try.prog 68 [(.ptr 0 2), (.d (.int .i64 x1)), (.d (.int .u8 x2))] [(.arr 1 x3)] (.d (.int .u8 v42)) [(.arr 1 x3)] := by
  unfold R68 at h
  refine ACall.enter hT (fn := Try.f68) Try.func68 rfl (by decide) (by simp [Try.f68]) rfl rfl rfl rfl (lb rfl) ?_
  refine AWp.seq ?_
  refine AWp.rg hT hA {} (by cbv) (lb rfl) ?_
  refine nT ?_
  refine AWp.seq ?_
  refine AWp.rg hT hA {} (by cbv) (lb rfl) ?_
  refine nT ?_
  refine AWp.seq ?_
  refine AWp.seq ?_
  refine AWp.region ?_
  obtain ⟨r5, e4, h⟩ := bindS h
  refine AOps.cc hT hA {} (by cbv) (lb rfl) (R76w hA e4) rfl (.inr rfl) rfl rfl rfl (lb rfl) rfl rfl ?_
  refine AOps.cd hT hA {} (by cbv) (lb rfl) ?_
  refine nT ?_
  refine AWp.block ?_
  obtain ⟨xK41, hxK41, K41, hK41, hkK41⟩ := bindK h
  refine AWp.cutX 0 [7] [] 1 (lb rfl) (fun τ => ∃ v40, K41 v40 = some v42 ∧ τ = { env := [(7, (.d (.int .u8 v40)))], heap := [(.arr 1 x3)], n := 28 }) ?_ ?_
  · skip
    refine AWp.iter hxK41 [0, 1, 7, 11, 12, 13] [] 1 (lb rfl) (fun (v22, v23) => { env := [(0, (.ptr 0 2)), (1, (.d (.int .i64 x1))), (7, (.d (.int .u8 v22))), (11, (.own 1 r5)), (12, (.d (.int .i64 (A.len r5)))), (13, (.d (.int .i64 v23)))], heap := [(.arr 1 x3)], n := 28 }) ⟨rfl, (by cbv)⟩ ?_
    rintro ⟨v22, v23⟩ eK41 hsK41
    dsimp only [R68L0] at hsK41
    refine AWp.seq ?_
    refine AWp.rg hT hA {} (by cbv) (lb rfl) ?_
    refine nT ?_
    refine AWp.seq ?_
    rcases tf (A.zlt v23 (A.len r5)) with c24 | c24
    · replace hsK41 := cT c24 hsK41
      refine AWp.cdT rfl (by first | rfl | simp only [c24, Bool.not_true, Bool.not_false, cond_true, cond_false]) ?_
      refine AWp.skip ?_
      refine nT ?_
      refine AWp.seq ?_
      refine AWp.block ?_
      refine AWp.seq ?_
      obtain ⟨a25, e26, hsK41⟩ := bindS hsK41
      obtain ⟨f27, f28⟩ := gtI e26
      refine AWp.rg hT hA {} (by (repeat (cbv; simp only [c24, f27, f28])); first | done | cbv) (lb rfl) ?_
      refine nT ?_
      obtain ⟨_, e29, hsK41⟩ := bindS hsK41
      have f31 := ckI e29
      obtain ⟨_, e30, hsK41⟩ := bindS hsK41
      have f32 := ckI e30
      obtain ⟨_, e33, hsK41⟩ := bindS hsK41
      have f35 := ckI e33
      obtain ⟨_, e34, hsK41⟩ := bindS hsK41
      have f36 := ckI e34
      obtain ⟨a37, e38, hsK41⟩ := bindS hsK41
      have f39 := gcI e38
      refine AWp.rg hT hA { tk := [25] } (by (repeat (cbv; simp only [c24, f31, f32, f35, f36, f39])); first | done | cbv) (lb rfl) ?_
      refine nB ?_
      refine nT ?_
      refine AWp.rg hT hA {} (by (repeat (cbv; simp only [c24])); first | done | cbv) (lb rfl) ?_
      exact nT ⟨_, (soI hsK41).symm, rfl, (by first | (cbv; done) | ((repeat (cbv; simp only [c24])); first | done | cbv))⟩
    · replace hsK41 := cF c24 hsK41
      refine AWp.cdF rfl (by first | rfl | simp only [c24, Bool.not_true, Bool.not_false, cond_true, cond_false]) ?_
      refine AWp.exit ?_
      refine xT ?_
      refine xT ?_
      refine exL hsK41 fun hx => ?_
      subst hx
      exact oxI ⟨rfl, _, hkK41, (by first | (cbv; done) | ((repeat (cbv; simp only [c24])); first | done | cbv))⟩
  · rintro _ ⟨v40, hkK41, rfl⟩
    have h := (hK41 _ hkK41)
    refine xB ?_
    refine nT ?_
    refine AWp.seq ?_
    refine AWp.rg hT hA { tk := [7, 27] } (by cbv) (lb rfl) ?_
    refine nT ?_
    refine AWp.ret ?_
    cases soI h
    exact ⟨rfl, rfl, rfl, lb rfl, _, rfl⟩

theorem R68aw {A : Ar} (hA : A = Ar.std) {x1 : Int} {x2 : Int} {x3 : List D} {v42 : Int} (h : R68a A x1 x2 x3 = some v42) : ACall Try.prog 68 [(.ptr 0 26), (.d (.int .i64 x1)), (.d (.int .u8 x2))] [(.arr 1 x3)] (.d (.int .u8 v42)) [(.arr 1 x3)] := by
  unfold R68a at h
  refine ACall.enter hT (fn := Try.f68) Try.func68 rfl (by decide) (by simp [Try.f68]) rfl rfl rfl rfl (lb rfl) ?_
  refine AWp.seq ?_
  refine AWp.rg hT hA {} (by cbv) (lb rfl) ?_
  refine nT ?_
  refine AWp.seq ?_
  refine AWp.rg hT hA {} (by cbv) (lb rfl) ?_
  refine nT ?_
  refine AWp.seq ?_
  refine AWp.seq ?_
  refine AWp.region ?_
  obtain ⟨r5, e4, h⟩ := bindS h
  refine AOps.cc hT hA {} (by cbv) (lb rfl) (R76w hA e4) rfl (.inr rfl) rfl rfl rfl (lb rfl) rfl rfl ?_
  refine AOps.cd hT hA {} (by cbv) (lb rfl) ?_
  refine nT ?_
  refine AWp.block ?_
  obtain ⟨xK41, hxK41, K41, hK41, hkK41⟩ := bindK h
  refine AWp.cutX 0 [7] [] 1 (lb rfl) (fun τ => ∃ v40, K41 v40 = some v42 ∧ τ = { env := [(7, (.d (.int .u8 v40)))], heap := [(.arr 1 x3)], n := 28 }) ?_ ?_
  · skip
    refine AWp.iter hxK41 [0, 1, 7, 11, 12, 13] [] 1 (lb rfl) (fun (v22, v23) => { env := [(0, (.ptr 0 26)), (1, (.d (.int .i64 x1))), (7, (.d (.int .u8 v22))), (11, (.own 1 r5)), (12, (.d (.int .i64 (A.len r5)))), (13, (.d (.int .i64 v23)))], heap := [(.arr 1 x3)], n := 28 }) ⟨rfl, (by cbv)⟩ ?_
    rintro ⟨v22, v23⟩ eK41 hsK41
    dsimp only [R68aL0] at hsK41
    refine AWp.seq ?_
    refine AWp.rg hT hA {} (by cbv) (lb rfl) ?_
    refine nT ?_
    refine AWp.seq ?_
    rcases tf (A.zlt v23 (A.len r5)) with c24 | c24
    · replace hsK41 := cT c24 hsK41
      refine AWp.cdT rfl (by first | rfl | simp only [c24, Bool.not_true, Bool.not_false, cond_true, cond_false]) ?_
      refine AWp.skip ?_
      refine nT ?_
      refine AWp.seq ?_
      refine AWp.block ?_
      refine AWp.seq ?_
      obtain ⟨a25, e26, hsK41⟩ := bindS hsK41
      obtain ⟨f27, f28⟩ := gtI e26
      refine AWp.rg hT hA {} (by (repeat (cbv; simp only [c24, f27, f28])); first | done | cbv) (lb rfl) ?_
      refine nT ?_
      obtain ⟨_, e29, hsK41⟩ := bindS hsK41
      have f31 := ckI e29
      obtain ⟨_, e30, hsK41⟩ := bindS hsK41
      have f32 := ckI e30
      obtain ⟨_, e33, hsK41⟩ := bindS hsK41
      have f35 := ckI e33
      obtain ⟨_, e34, hsK41⟩ := bindS hsK41
      have f36 := ckI e34
      obtain ⟨a37, e38, hsK41⟩ := bindS hsK41
      have f39 := gcI e38
      refine AWp.rg hT hA { tk := [25] } (by (repeat (cbv; simp only [c24, f31, f32, f35, f36, f39])); first | done | cbv) (lb rfl) ?_
      refine nB ?_
      refine nT ?_
      refine AWp.rg hT hA {} (by (repeat (cbv; simp only [c24])); first | done | cbv) (lb rfl) ?_
      exact nT ⟨_, (soI hsK41).symm, rfl, (by first | (cbv; done) | ((repeat (cbv; simp only [c24])); first | done | cbv))⟩
    · replace hsK41 := cF c24 hsK41
      refine AWp.cdF rfl (by first | rfl | simp only [c24, Bool.not_true, Bool.not_false, cond_true, cond_false]) ?_
      refine AWp.exit ?_
      refine xT ?_
      refine xT ?_
      refine exL hsK41 fun hx => ?_
      subst hx
      exact oxI ⟨rfl, _, hkK41, (by first | (cbv; done) | ((repeat (cbv; simp only [c24])); first | done | cbv))⟩
  · rintro _ ⟨v40, hkK41, rfl⟩
    have h := (hK41 _ hkK41)
    refine xB ?_
    refine nT ?_
    refine AWp.seq ?_
    refine AWp.rg hT hA { tk := [7, 27] } (by cbv) (lb rfl) ?_
    refine nT ?_
    refine AWp.ret ?_
    cases soI h
    exact ⟨rfl, rfl, rfl, lb rfl, _, rfl⟩

theorem R58wa {A : Ar} (hA : A = Ar.std) {x1 : Int} {x2 : List D} {v219 : List D} (h : R58 A x1 x2 = some (.inl v219)) : ACall Try.prog 58 [(.d (.agg [(.int .i64 x1), (.list 3 x2)]))] [] (.tuple [(.ptr 0 0), (.d (.int .i64 0))]) [(.arr 1 v219)] := by
  unfold R58 at h
  refine ACall.enter hT (fn := Try.f58) Try.func58 rfl (by decide) (by simp [Try.f58]) rfl rfl rfl rfl (lb rfl) ?_
  refine AWp.seq ?_
  refine AWp.rg hT hA {} (by cbv) (lb rfl) ?_
  refine nT ?_
  refine AWp.seq ?_
  refine AWp.seq ?_
  refine AWp.region ?_
  obtain ⟨r4, e3, h⟩ := bindS h
  refine AOps.cc hT hA {} (by cbv) (lb rfl) (R33w hA e3) rfl (.inl rfl) rfl rfl rfl (lb rfl) rfl rfl ?_
  refine AOps.cd hT hA {} (by cbv) (lb rfl) ?_
  refine nT ?_
  rcases tf r4 with c5 | c5
  · replace h := cT c5 h
    refine AWp.cdF rfl (by first | rfl | simp only [c5, Bool.not_true, Bool.not_false, cond_true, cond_false]) ?_
    refine AWp.skip ?_
    refine nT ?_
    refine AWp.seq ?_
    have f6 := lnF hA (l := [(.int .i64 x1), (.list 3 x2), (.int .u8 0), (.int .u8 0), (.int .u8 0), (.int .u8 0), (.int .u8 0), (.int .u8 0), (.int .u8 0), (.int .u8 0), (.int .u8 0), (.int .u8 0), (.int .u8 0), (.int .u8 0), (.int .u8 0), (.int .u8 0), (.int .u8 0), (.int .u8 0), (.int .u8 0), (.int .u8 0), (.int .u8 0), (.int .u8 0), (.int .u8 0), (.int .u8 0), (.int .u8 0), (.int .u8 0), (.int .u8 0), (.int .u8 0), (.int .u8 0), (.int .u8 0), (.int .u8 0), (.int .u8 0), (.int .u8 0), (.int .u8 0), (.int .u8 0), (.int .u8 0), (.int .u8 0), (.int .u8 0), (.int .u8 0), (.int .u8 0), (.int .u8 0), (.int .u8 0), (.int .u8 0), (.int .u8 0), (.int .u8 0), (.int .u8 0), (.int .u8 0), (.int .u8 0), (.int .u8 0), (.int .u8 0)]) (n := 50) rfl
    refine AWp.rg hT hA { arr := [17] } (by (repeat (cbv; simp only [c5, f6])); first | done | cbv) (lb rfl) ?_
    refine nT ?_
    refine AWp.seq ?_
    refine AWp.seq ?_
    refine AWp.rg hT hA {} (by (repeat (cbv; simp only [c5])); first | done | cbv) (lb rfl) ?_
    refine nT ?_
    refine AWp.block ?_
    obtain ⟨xK70, hxK70, K70, hK70, hkK70⟩ := bindK h
    refine AWp.cutX 0 [1, 4] [] 1 (lb rfl) (fun τ => ∃ v69, K70 v69 = some (.inl v219) ∧ τ = { env := [(1, (.lbox [(.d (.int .i64 x1)), (.d (.list 3 x2))])), (4, (.ptr 0 0))], heap := [(.arr 1 v69)], n := 111 }) ?_ ?_
    · skip
      refine AWp.iter hxK70 [1, 4, 19, 20, 21] [] 1 (lb rfl) (fun (v37, v38) => { env := [(1, (.lbox [(.d (.int .i64 x1)), (.d (.list 3 x2))])), (4, (.ptr 0 0)), (19, (.d (.list 3 x2))), (20, (.d (.int .i64 (A.len x2)))), (21, (.d (.int .i64 v37)))], heap := [(.arr 1 v38)], n := 111 }) ⟨rfl, (by first | (cbv; done) | ((repeat (cbv; simp only [c5])); first | done | cbv))⟩ ?_
      rintro ⟨v37, v38⟩ eK70 hsK70
      dsimp only [R58L0] at hsK70
      refine AWp.seq ?_
      refine AWp.rg hT hA {} (by cbv) (lb rfl) ?_
      refine nT ?_
      refine AWp.seq ?_
      rcases tf (A.zlt v37 (A.len x2)) with c39 | c39
      · replace hsK70 := cT c39 hsK70
        refine AWp.cdT rfl (by first | rfl | simp only [c39, Bool.not_true, Bool.not_false, cond_true, cond_false]) ?_
        refine AWp.skip ?_
        refine nT ?_
        refine AWp.seq ?_
        refine AWp.block ?_
        refine AWp.seq ?_
        obtain ⟨⟨a40, a41, a42⟩, e43, hsK70⟩ := bindS hsK70
        obtain ⟨f44, f45⟩ := gtI e43
        refine AWp.rg hT hA { tk := [24] } (by (repeat (cbv; simp only [c39, f44, f45])); first | done | cbv) (lb rfl) ?_
        refine nT ?_
        obtain ⟨_, e46, hsK70⟩ := bindS hsK70
        have f48 := ckI e46
        obtain ⟨_, e47, hsK70⟩ := bindS hsK70
        have f49 := ckI e47
        obtain ⟨_, e50, hsK70⟩ := bindS hsK70
        have f52 := ckI e50
        obtain ⟨_, e51, hsK70⟩ := bindS hsK70
        have f53 := ckI e51
        obtain ⟨a54, e55, hsK70⟩ := bindS hsK70
        have f56 := gcI e55
        obtain ⟨_, e57, hsK70⟩ := bindS hsK70
        have f58 := nkI e57
        obtain ⟨_, e59, hsK70⟩ := bindS hsK70
        have f61 := ckI e59
        obtain ⟨_, e60, hsK70⟩ := bindS hsK70
        have f62 := ckI e60
        obtain ⟨_, e63, hsK70⟩ := bindS hsK70
        have f65 := ckI e63
        obtain ⟨_, e64, hsK70⟩ := bindS hsK70
        have f66 := ckI e64
        obtain ⟨d67, e68, hsK70⟩ := bindS hsK70
        refine AWp.rd hT hA { tk := [38] } rfl (by (repeat (cbv; simp only [c39, f48, f49, f52, f53, f56, f58, f61, f62, f65, f66, e68])); first | done | cbv) (by kernel_rfl) (lb rfl) ?_
        refine nB ?_
        refine nT ?_
        refine AWp.rg hT hA {} (by (repeat (cbv; simp only [c39])); first | done | cbv) (lb rfl) ?_
        exact nT ⟨_, (soI hsK70).symm, rfl, (by first | (cbv; done) | ((repeat (cbv; simp only [c39])); first | done | cbv))⟩
      · replace hsK70 := cF c39 hsK70
        refine AWp.cdF rfl (by first | rfl | simp only [c39, Bool.not_true, Bool.not_false, cond_true, cond_false]) ?_
        refine AWp.exit ?_
        refine xT ?_
        refine xT ?_
        refine exL hsK70 fun hx => ?_
        subst hx
        exact oxI ⟨rfl, _, hkK70, (by first | (cbv; done) | ((repeat (cbv; simp only [c39])); first | done | cbv))⟩
    · rintro _ ⟨v69, hkK70, rfl⟩
      have h := (hK70 _ hkK70)
      refine xB ?_
      refine nT ?_
      refine AWp.seq ?_
      refine AWp.seq ?_
      refine AWp.rg hT hA {} (by cbv) (lb rfl) ?_
      refine nT ?_
      refine AWp.block ?_
      obtain ⟨xK116, hxK116, K116, hK116, hkK116⟩ := bindK h
      refine AWp.cutX 2 [1, 4] [] 1 (lb rfl) (fun τ => ∃ v115, K116 v115 = some (.inl v219) ∧ τ = { env := [(1, (.lbox [(.d (.int .i64 x1)), (.d (.list 3 x2))])), (4, (.ptr 0 0))], heap := [(.arr 1 v115)], n := 111 }) ?_ ?_
      · skip
        refine AWp.iter hxK116 [1, 4, 45, 46] [] 1 (lb rfl) (fun (v92, v93) => { env := [(1, (.lbox [(.d (.int .i64 x1)), (.d (.list 3 x2))])), (4, (.ptr 0 0)), (45, (.d (.int .i64 x1))), (46, (.d (.int .i64 v92)))], heap := [(.arr 1 v93)], n := 111 }) ⟨rfl, (by cbv)⟩ ?_
        rintro ⟨v92, v93⟩ eK116 hsK116
        dsimp only [R58L2] at hsK116
        refine AWp.seq ?_
        refine AWp.rg hT hA {} (by cbv) (lb rfl) ?_
        refine nT ?_
        refine AWp.seq ?_
        rcases tf (A.zlt v92 x1) with c94 | c94
        · replace hsK116 := cT c94 hsK116
          refine AWp.cdT rfl (by first | rfl | simp only [c94, Bool.not_true, Bool.not_false, cond_true, cond_false]) ?_
          refine AWp.skip ?_
          refine nT ?_
          refine AWp.seq ?_
          refine AWp.block ?_
          refine AWp.seq ?_
          refine AWp.rg hT hA {} (by (repeat (cbv; simp only [c94])); first | done | cbv) (lb rfl) ?_
          refine nT ?_
          refine AWp.seq ?_
          obtain ⟨_, e95, hsK116⟩ := bindS hsK116
          have f96 := nkI e95
          refine AWp.rg hT hA { tk := [50] } (by (repeat (cbv; simp only [c94, f96])); first | done | cbv) (lb rfl) ?_
          refine nT ?_
          refine AWp.seq ?_
          refine AWp.seq ?_
          refine AWp.region ?_
          obtain ⟨r98, e97, hsK116⟩ := bindS hsK116
          refine AOps.cc hT hA { tk := [57] } (by (repeat (cbv; simp only [c94])); first | done | cbv) (lb rfl) (R68w hA e97) rfl (.inl rfl) rfl rfl rfl (lb rfl) rfl rfl ?_
          refine AOps.cd hT hA { tk := [57] } (by (repeat (cbv; simp only [c94])); first | done | cbv) (lb rfl) ?_
          refine nT ?_
          refine AWp.block ?_
          obtain ⟨xK108, hxK108, K108, hK108, hkK108⟩ := bindK hsK116
          refine AWp.cutX 4 [1, 4, 7, 8, 45, 46] [] 1 (lb rfl) (fun τ => ∃ v107, K108 v107 = some eK116 ∧ τ = { env := [(1, (.lbox [(.d (.int .i64 x1)), (.d (.list 3 x2))])), (4, (.ptr 0 0)), (7, (.d (.int .i64 v92))), (8, (.d (.int .u8 v107))), (45, (.d (.int .i64 x1))), (46, (.d (.int .i64 v92)))], heap := [(.arr 1 v93)], n := 111 }) ?_ ?_
          · skip
            refine AWp.iter hxK108 [1, 4, 7, 8, 9, 45, 46] [] 1 (lb rfl) (fun (v102, v103) => { env := [(1, (.lbox [(.d (.int .i64 x1)), (.d (.list 3 x2))])), (4, (.ptr 0 0)), (7, (.d (.int .i64 v92))), (8, (.d (.int .u8 v102))), (9, (.d (.int .u8 v103))), (45, (.d (.int .i64 x1))), (46, (.d (.int .i64 v92)))], heap := [(.arr 1 v93)], n := 111 }) ⟨rfl, (by first | (cbv; done) | ((repeat (cbv; simp only [c94])); first | done | cbv))⟩ ?_
            rintro ⟨v102, v103⟩ eK108 hsK108
            dsimp only [R58L1] at hsK108
            refine AWp.seq ?_
            refine AWp.seq ?_
            refine AWp.rg hT hA {} (by cbv) (lb rfl) ?_
            refine nT ?_
            rcases tf (A.zeq v103 v102) with c104 | c104
            · replace hsK108 := cT c104 hsK108
              refine AWp.cdF rfl (by first | rfl | simp only [c104, Bool.not_true, Bool.not_false, cond_true, cond_false]) ?_
              refine AWp.exit ?_
              refine xT ?_
              refine xT ?_
              refine exL hsK108 fun hx => ?_
              subst hx
              exact oxI ⟨rfl, _, hkK108, (by first | (cbv; done) | ((repeat (cbv; simp only [c104])); first | done | cbv))⟩
            · replace hsK108 := cF c104 hsK108
              refine AWp.cdT rfl (by first | rfl | simp only [c104, Bool.not_true, Bool.not_false, cond_true, cond_false]) ?_
              refine AWp.skip ?_
              refine nT ?_
              refine AWp.seq ?_
              refine AWp.block ?_
              refine AWp.rg hT hA { tk := [9, 68] } (by (repeat (cbv; simp only [c104])); first | done | cbv) (lb rfl) ?_
              refine nB ?_
              refine nT ?_
              refine AWp.region ?_
              obtain ⟨r106, e105, hsK108⟩ := bindS hsK108
              refine AOps.cc hT hA { tk := [67] } (by (repeat (cbv; simp only [c104])); first | done | cbv) (lb rfl) (R68w hA e105) rfl (.inl rfl) rfl rfl rfl (lb rfl) rfl rfl ?_
              refine AOps.cd hT hA { tk := [67] } (by (repeat (cbv; simp only [c104])); first | done | cbv) (lb rfl) ?_
              exact nT ⟨_, (soI hsK108).symm, rfl, (by first | (cbv; done) | ((repeat (cbv; simp only [c104])); first | done | cbv))⟩
          · rintro _ ⟨v107, hkK108, rfl⟩
            have hsK116 := (hK108 _ hkK108)
            refine xB ?_
            refine nT ?_
            obtain ⟨_, e109, hsK116⟩ := bindS hsK116
            have f111 := ckI e109
            obtain ⟨_, e110, hsK116⟩ := bindS hsK116
            have f112 := ckI e110
            obtain ⟨d113, e114, hsK116⟩ := bindS hsK116
            refine AWp.rg hT hA { tk := [8, 71] } (by (repeat (cbv; simp only [f111, f112, e114])); first | done | cbv) (lb rfl) ?_
            refine nB ?_
            refine nT ?_
            refine AWp.rg hT hA {} (by cbv) (lb rfl) ?_
            exact nT ⟨_, (soI hsK116).symm, rfl, (by cbv)⟩
        · replace hsK116 := cF c94 hsK116
          refine AWp.cdF rfl (by first | rfl | simp only [c94, Bool.not_true, Bool.not_false, cond_true, cond_false]) ?_
          refine AWp.exit ?_
          refine xT ?_
          refine xT ?_
          refine exL hsK116 fun hx => ?_
          subst hx
          exact oxI ⟨rfl, _, hkK116, (by first | (cbv; done) | ((repeat (cbv; simp only [c94])); first | done | cbv))⟩
      · rintro _ ⟨v115, hkK116, rfl⟩
        have h := (hK116 _ hkK116)
        refine xB ?_
        refine nT ?_
        refine AWp.seq ?_
        refine AWp.seq ?_
        refine AWp.rg hT hA {} (by cbv) (lb rfl) ?_
        refine nT ?_
        refine AWp.block ?_
        obtain ⟨xK218, hxK218, K218, hK218, hkK218⟩ := bindK h
        refine AWp.cutX 6 [4] [] 1 (lb rfl) (fun τ => ∃ v217, K218 v217 = some (.inl v219) ∧ τ = { env := [(4, (.ptr 0 0))], heap := [(.arr 1 v217)], n := 111 }) ?_ ?_
        · skip
          refine AWp.iter hxK218 [1, 4, 10] [] 1 (lb rfl) (fun (v166, v167) => { env := [(1, (.lbox [(.d (.int .i64 x1)), (.d (.list 3 x2))])), (4, (.ptr 0 0)), (10, (.d (.int .i64 v166)))], heap := [(.arr 1 v167)], n := 111 }) ⟨rfl, (by cbv)⟩ ?_
          rintro ⟨v166, v167⟩ eK218 hsK218
          dsimp only [R58L4] at hsK218
          refine AWp.seq ?_
          refine AWp.seq ?_
          refine AWp.rg hT hA {} (by cbv) (lb rfl) ?_
          refine nT ?_
          rcases tf (A.zle v166 3) with c168 | c168
          · replace hsK218 := cT c168 hsK218
            refine AWp.cdT rfl (by first | rfl | simp only [c168, Bool.not_true, Bool.not_false, cond_true, cond_false]) ?_
            refine AWp.skip ?_
            refine nT ?_
            refine AWp.seq ?_
            refine AWp.block ?_
            refine AWp.seq ?_
            refine AWp.rg hT hA {} (by (repeat (cbv; simp only [c168])); first | done | cbv) (lb rfl) ?_
            refine nT ?_
            refine AWp.block ?_
            obtain ⟨xK216, hxK216, K216, hK216, hkK216⟩ := bindK hsK218
            refine AWp.cutX 8 [1, 4, 10] [] 1 (lb rfl) (fun τ => ∃ v215, K216 v215 = some eK218 ∧ τ = { env := [(1, (.lbox [(.d (.int .i64 x1)), (.d (.list 3 x2))])), (4, (.ptr 0 0)), (10, (.d (.int .i64 v166)))], heap := [(.arr 1 v215)], n := 111 }) ?_ ?_
            · skip
              refine AWp.iter hxK216 [1, 4, 10, 82, 83] [] 1 (lb rfl) (fun (v191, v192) => { env := [(1, (.lbox [(.d (.int .i64 x1)), (.d (.list 3 x2))])), (4, (.ptr 0 0)), (10, (.d (.int .i64 v166))), (82, (.d (.int .i64 x1))), (83, (.d (.int .i64 v191)))], heap := [(.arr 1 v192)], n := 111 }) ⟨rfl, (by first | (cbv; done) | ((repeat (cbv; simp only [c168])); first | done | cbv))⟩ ?_
              rintro ⟨v191, v192⟩ eK216 hsK216
              dsimp only [R58L3] at hsK216
              refine AWp.seq ?_
              refine AWp.rg hT hA {} (by cbv) (lb rfl) ?_
              refine nT ?_
              refine AWp.seq ?_
              rcases tf (A.zlt v191 x1) with c193 | c193
              · replace hsK216 := cT c193 hsK216
                refine AWp.cdT rfl (by first | rfl | simp only [c193, Bool.not_true, Bool.not_false, cond_true, cond_false]) ?_
                refine AWp.skip ?_
                refine nT ?_
                refine AWp.seq ?_
                refine AWp.block ?_
                refine AWp.seq ?_
                refine AWp.rg hT hA {} (by (repeat (cbv; simp only [c193])); first | done | cbv) (lb rfl) ?_
                refine nT ?_
                refine AWp.regionDraw rfl (lb rfl) ?_
                obtain ⟨_, e194, hsK216⟩ := bindS hsK216
                have f196 := ckI e194
                obtain ⟨_, e195, hsK216⟩ := bindS hsK216
                have f197 := ckI e195
                obtain ⟨a198, e199, hsK216⟩ := bindS hsK216
                have f200 := gcI e199
                obtain ⟨r202, e201, hsK216⟩ := bindS hsK216
                refine DOps.cp hT hA { tk := [104] } rfl (by (repeat (cbv; simp only [c193, f196, f197, f200])); first | done | cbv) (R68w hA e201) rfl rfl rfl rfl (lb rfl) rfl rfl ?_
                obtain ⟨r204, e203, hsK216⟩ := bindS hsK216
                refine DOps.cp hT hA { tk := [104] } rfl (by (repeat (cbv; simp only [c193, f196, f197, f200])); first | done | cbv) (R68aw hA e203) rfl rfl rfl rfl (lb rfl) rfl rfl ?_
                obtain ⟨_, e205, hsK216⟩ := bindS hsK216
                have f207 := ckI e205
                obtain ⟨_, e206, hsK216⟩ := bindS hsK216
                have f208 := ckI e206
                obtain ⟨_, e209, hsK216⟩ := bindS hsK216
                have f211 := ckI e209
                obtain ⟨_, e210, hsK216⟩ := bindS hsK216
                have f212 := ckI e210
                obtain ⟨d213, e214, hsK216⟩ := bindS hsK216
                refine DOps.cd hT hA { tk := [104] } rfl (by (repeat (cbv; simp only [c193, f196, f197, f200, f207, f208, f211, f212, e214])); first | done | cbv) (by kernel_rfl) ?_
                refine nB ?_
                refine nT ?_
                refine AWp.rg hT hA {} (by (repeat (cbv; simp only [c193])); first | done | cbv) (lb rfl) ?_
                exact nT ⟨_, (soI hsK216).symm, rfl, (by first | (cbv; done) | ((repeat (cbv; simp only [c193])); first | done | cbv))⟩
              · replace hsK216 := cF c193 hsK216
                refine AWp.cdF rfl (by first | rfl | simp only [c193, Bool.not_true, Bool.not_false, cond_true, cond_false]) ?_
                refine AWp.exit ?_
                refine xT ?_
                refine xT ?_
                refine exL hsK216 fun hx => ?_
                subst hx
                exact oxI ⟨rfl, _, hkK216, (by first | (cbv; done) | ((repeat (cbv; simp only [c193])); first | done | cbv))⟩
            · rintro _ ⟨v215, hkK216, rfl⟩
              have hsK218 := (hK216 _ hkK216)
              refine xB ?_
              refine nB ?_
              refine nT ?_
              refine AWp.rg hT hA {} (by cbv) (lb rfl) ?_
              exact nT ⟨_, (soI hsK218).symm, rfl, (by cbv)⟩
          · replace hsK218 := cF c168 hsK218
            refine AWp.cdF rfl (by first | rfl | simp only [c168, Bool.not_true, Bool.not_false, cond_true, cond_false]) ?_
            refine AWp.exit ?_
            refine xT ?_
            refine xT ?_
            refine exL hsK218 fun hx => ?_
            subst hx
            exact oxI ⟨rfl, _, hkK218, (by first | (cbv; done) | ((repeat (cbv; simp only [c168])); first | done | cbv))⟩
        · rintro _ ⟨v217, hkK218, rfl⟩
          have h := (hK218 _ hkK218)
          refine xB ?_
          refine nT ?_
          refine AWp.seq ?_
          refine AWp.rg hT hA {} (by cbv) (lb rfl) ?_
          refine nT ?_
          refine AWp.ret ?_
          cases soI h
          exact ⟨rfl, rfl, rfl, lb rfl, _, rfl⟩
  · replace h := cF c5 h
    refine AWp.cdT rfl (by first | rfl | simp only [c5, Bool.not_true, Bool.not_false, cond_true, cond_false]) ?_
    refine AWp.seq ?_
    refine AWp.rg hT hA {} (by (repeat (cbv; simp only [c5])); first | done | cbv) (lb rfl) ?_
    refine nT ?_
    refine AWp.ret ?_
    refine rT ?_
    cases soI h

theorem R58wb {A : Ar} (hA : A = Ar.std) {x1 : Int} {x2 : List D} (h : R58 A x1 x2 = some (.inr ())) : ACall Try.prog 58 [(.d (.agg [(.int .i64 x1), (.list 3 x2)]))] [] (.tuple [.nilptr, (.d (.int .i64 50))]) [] := by
  unfold R58 at h
  refine ACall.enter hT (fn := Try.f58) Try.func58 rfl (by decide) (by simp [Try.f58]) rfl rfl rfl rfl (lb rfl) ?_
  refine AWp.seq ?_
  refine AWp.rg hT hA {} (by cbv) (lb rfl) ?_
  refine nT ?_
  refine AWp.seq ?_
  refine AWp.seq ?_
  refine AWp.region ?_
  obtain ⟨r4, e3, h⟩ := bindS h
  refine AOps.cc hT hA {} (by cbv) (lb rfl) (R33w hA e3) rfl (.inl rfl) rfl rfl rfl (lb rfl) rfl rfl ?_
  refine AOps.cd hT hA {} (by cbv) (lb rfl) ?_
  refine nT ?_
  rcases tf r4 with c5 | c5
  · replace h := cT c5 h
    refine AWp.cdF rfl (by first | rfl | simp only [c5, Bool.not_true, Bool.not_false, cond_true, cond_false]) ?_
    refine AWp.skip ?_
    refine nT ?_
    refine AWp.seq ?_
    have f6 := lnF hA (l := [(.int .i64 x1), (.list 3 x2), (.int .u8 0), (.int .u8 0), (.int .u8 0), (.int .u8 0), (.int .u8 0), (.int .u8 0), (.int .u8 0), (.int .u8 0), (.int .u8 0), (.int .u8 0), (.int .u8 0), (.int .u8 0), (.int .u8 0), (.int .u8 0), (.int .u8 0), (.int .u8 0), (.int .u8 0), (.int .u8 0), (.int .u8 0), (.int .u8 0), (.int .u8 0), (.int .u8 0), (.int .u8 0), (.int .u8 0), (.int .u8 0), (.int .u8 0), (.int .u8 0), (.int .u8 0), (.int .u8 0), (.int .u8 0), (.int .u8 0), (.int .u8 0), (.int .u8 0), (.int .u8 0), (.int .u8 0), (.int .u8 0), (.int .u8 0), (.int .u8 0), (.int .u8 0), (.int .u8 0), (.int .u8 0), (.int .u8 0), (.int .u8 0), (.int .u8 0), (.int .u8 0), (.int .u8 0), (.int .u8 0), (.int .u8 0)]) (n := 50) rfl
    refine AWp.rg hT hA { arr := [17] } (by (repeat (cbv; simp only [c5, f6])); first | done | cbv) (lb rfl) ?_
    refine nT ?_
    refine AWp.seq ?_
    refine AWp.seq ?_
    refine AWp.rg hT hA {} (by (repeat (cbv; simp only [c5])); first | done | cbv) (lb rfl) ?_
    refine nT ?_
    refine AWp.block ?_
    obtain ⟨xK70, hxK70, K70, hK70, hkK70⟩ := bindK h
    refine AWp.cutX 0 [1, 4] [] 1 (lb rfl) (fun τ => ∃ v69, K70 v69 = some (.inr ()) ∧ τ = { env := [(1, (.lbox [(.d (.int .i64 x1)), (.d (.list 3 x2))])), (4, (.ptr 0 0))], heap := [(.arr 1 v69)], n := 111 }) ?_ ?_
    · skip
      refine AWp.iter hxK70 [1, 4, 19, 20, 21] [] 1 (lb rfl) (fun (v37, v38) => { env := [(1, (.lbox [(.d (.int .i64 x1)), (.d (.list 3 x2))])), (4, (.ptr 0 0)), (19, (.d (.list 3 x2))), (20, (.d (.int .i64 (A.len x2)))), (21, (.d (.int .i64 v37)))], heap := [(.arr 1 v38)], n := 111 }) ⟨rfl, (by first | (cbv; done) | ((repeat (cbv; simp only [c5])); first | done | cbv))⟩ ?_
      rintro ⟨v37, v38⟩ eK70 hsK70
      dsimp only [R58L0] at hsK70
      refine AWp.seq ?_
      refine AWp.rg hT hA {} (by cbv) (lb rfl) ?_
      refine nT ?_
      refine AWp.seq ?_
      rcases tf (A.zlt v37 (A.len x2)) with c39 | c39
      · replace hsK70 := cT c39 hsK70
        refine AWp.cdT rfl (by first | rfl | simp only [c39, Bool.not_true, Bool.not_false, cond_true, cond_false]) ?_
        refine AWp.skip ?_
        refine nT ?_
        refine AWp.seq ?_
        refine AWp.block ?_
        refine AWp.seq ?_
        obtain ⟨⟨a40, a41, a42⟩, e43, hsK70⟩ := bindS hsK70
        obtain ⟨f44, f45⟩ := gtI e43
        refine AWp.rg hT hA { tk := [24] } (by (repeat (cbv; simp only [c39, f44, f45])); first | done | cbv) (lb rfl) ?_
        refine nT ?_
        obtain ⟨_, e46, hsK70⟩ := bindS hsK70
        have f48 := ckI e46
        obtain ⟨_, e47, hsK70⟩ := bindS hsK70
        have f49 := ckI e47
        obtain ⟨_, e50, hsK70⟩ := bindS hsK70
        have f52 := ckI e50
        obtain ⟨_, e51, hsK70⟩ := bindS hsK70
        have f53 := ckI e51
        obtain ⟨a54, e55, hsK70⟩ := bindS hsK70
        have f56 := gcI e55
        obtain ⟨_, e57, hsK70⟩ := bindS hsK70
        have f58 := nkI e57
        obtain ⟨_, e59, hsK70⟩ := bindS hsK70
        have f61 := ckI e59
        obtain ⟨_, e60, hsK70⟩ := bindS hsK70
        have f62 := ckI e60
        obtain ⟨_, e63, hsK70⟩ := bindS hsK70
        have f65 := ckI e63
        obtain ⟨_, e64, hsK70⟩ := bindS hsK70
        have f66 := ckI e64
        obtain ⟨d67, e68, hsK70⟩ := bindS hsK70
        refine AWp.rd hT hA { tk := [38] } rfl (by (repeat (cbv; simp only [c39, f48, f49, f52, f53, f56, f58, f61, f62, f65, f66, e68])); first | done | cbv) (by kernel_rfl) (lb rfl) ?_
        refine nB ?_
        refine nT ?_
        refine AWp.rg hT hA {} (by (repeat (cbv; simp only [c39])); first | done | cbv) (lb rfl) ?_
        exact nT ⟨_, (soI hsK70).symm, rfl, (by first | (cbv; done) | ((repeat (cbv; simp only [c39])); first | done | cbv))⟩
      · replace hsK70 := cF c39 hsK70
        refine AWp.cdF rfl (by first | rfl | simp only [c39, Bool.not_true, Bool.not_false, cond_true, cond_false]) ?_
        refine AWp.exit ?_
        refine xT ?_
        refine xT ?_
        refine exL hsK70 fun hx => ?_
        subst hx
        exact oxI ⟨rfl, _, hkK70, (by first | (cbv; done) | ((repeat (cbv; simp only [c39])); first | done | cbv))⟩
    · rintro _ ⟨v69, hkK70, rfl⟩
      have h := (hK70 _ hkK70)
      refine xB ?_
      refine nT ?_
      refine AWp.seq ?_
      refine AWp.seq ?_
      refine AWp.rg hT hA {} (by cbv) (lb rfl) ?_
      refine nT ?_
      refine AWp.block ?_
      obtain ⟨xK116, hxK116, K116, hK116, hkK116⟩ := bindK h
      refine AWp.cutX 2 [1, 4] [] 1 (lb rfl) (fun τ => ∃ v115, K116 v115 = some (.inr ()) ∧ τ = { env := [(1, (.lbox [(.d (.int .i64 x1)), (.d (.list 3 x2))])), (4, (.ptr 0 0))], heap := [(.arr 1 v115)], n := 111 }) ?_ ?_
      · skip
        refine AWp.iter hxK116 [1, 4, 45, 46] [] 1 (lb rfl) (fun (v92, v93) => { env := [(1, (.lbox [(.d (.int .i64 x1)), (.d (.list 3 x2))])), (4, (.ptr 0 0)), (45, (.d (.int .i64 x1))), (46, (.d (.int .i64 v92)))], heap := [(.arr 1 v93)], n := 111 }) ⟨rfl, (by cbv)⟩ ?_
        rintro ⟨v92, v93⟩ eK116 hsK116
        dsimp only [R58L2] at hsK116
        refine AWp.seq ?_
        refine AWp.rg hT hA {} (by cbv) (lb rfl) ?_
        refine nT ?_
        refine AWp.seq ?_
        rcases tf (A.zlt v92 x1) with c94 | c94
        · replace hsK116 := cT c94 hsK116
          refine AWp.cdT rfl (by first | rfl | simp only [c94, Bool.not_true, Bool.not_false, cond_true, cond_false]) ?_
          refine AWp.skip ?_
          refine nT ?_
          refine AWp.seq ?_
          refine AWp.block ?_
          refine AWp.seq ?_
          refine AWp.rg hT hA {} (by (repeat (cbv; simp only [c94])); first | done | cbv) (lb rfl) ?_
          refine nT ?_
          refine AWp.seq ?_
          obtain ⟨_, e95, hsK116⟩ := bindS hsK116
          have f96 := nkI e95
          refine AWp.rg hT hA { tk := [50] } (by (repeat (cbv; simp only [c94, f96])); first | done | cbv) (lb rfl) ?_
          refine nT ?_
          refine AWp.seq ?_
          refine AWp.seq ?_
          refine AWp.region ?_
          obtain ⟨r98, e97, hsK116⟩ := bindS hsK116
          refine AOps.cc hT hA { tk := [57] } (by (repeat (cbv; simp only [c94])); first | done | cbv) (lb rfl) (R68w hA e97) rfl (.inl rfl) rfl rfl rfl (lb rfl) rfl rfl ?_
          refine AOps.cd hT hA { tk := [57] } (by (repeat (cbv; simp only [c94])); first | done | cbv) (lb rfl) ?_
          refine nT ?_
          refine AWp.block ?_
          obtain ⟨xK108, hxK108, K108, hK108, hkK108⟩ := bindK hsK116
          refine AWp.cutX 4 [1, 4, 7, 8, 45, 46] [] 1 (lb rfl) (fun τ => ∃ v107, K108 v107 = some eK116 ∧ τ = { env := [(1, (.lbox [(.d (.int .i64 x1)), (.d (.list 3 x2))])), (4, (.ptr 0 0)), (7, (.d (.int .i64 v92))), (8, (.d (.int .u8 v107))), (45, (.d (.int .i64 x1))), (46, (.d (.int .i64 v92)))], heap := [(.arr 1 v93)], n := 111 }) ?_ ?_
          · skip
            refine AWp.iter hxK108 [1, 4, 7, 8, 9, 45, 46] [] 1 (lb rfl) (fun (v102, v103) => { env := [(1, (.lbox [(.d (.int .i64 x1)), (.d (.list 3 x2))])), (4, (.ptr 0 0)), (7, (.d (.int .i64 v92))), (8, (.d (.int .u8 v102))), (9, (.d (.int .u8 v103))), (45, (.d (.int .i64 x1))), (46, (.d (.int .i64 v92)))], heap := [(.arr 1 v93)], n := 111 }) ⟨rfl, (by first | (cbv; done) | ((repeat (cbv; simp only [c94])); first | done | cbv))⟩ ?_
            rintro ⟨v102, v103⟩ eK108 hsK108
            dsimp only [R58L1] at hsK108
            refine AWp.seq ?_
            refine AWp.seq ?_
            refine AWp.rg hT hA {} (by cbv) (lb rfl) ?_
            refine nT ?_
            rcases tf (A.zeq v103 v102) with c104 | c104
            · replace hsK108 := cT c104 hsK108
              refine AWp.cdF rfl (by first | rfl | simp only [c104, Bool.not_true, Bool.not_false, cond_true, cond_false]) ?_
              refine AWp.exit ?_
              refine xT ?_
              refine xT ?_
              refine exL hsK108 fun hx => ?_
              subst hx
              exact oxI ⟨rfl, _, hkK108, (by first | (cbv; done) | ((repeat (cbv; simp only [c104])); first | done | cbv))⟩
            · replace hsK108 := cF c104 hsK108
              refine AWp.cdT rfl (by first | rfl | simp only [c104, Bool.not_true, Bool.not_false, cond_true, cond_false]) ?_
              refine AWp.skip ?_
              refine nT ?_
              refine AWp.seq ?_
              refine AWp.block ?_
              refine AWp.rg hT hA { tk := [9, 68] } (by (repeat (cbv; simp only [c104])); first | done | cbv) (lb rfl) ?_
              refine nB ?_
              refine nT ?_
              refine AWp.region ?_
              obtain ⟨r106, e105, hsK108⟩ := bindS hsK108
              refine AOps.cc hT hA { tk := [67] } (by (repeat (cbv; simp only [c104])); first | done | cbv) (lb rfl) (R68w hA e105) rfl (.inl rfl) rfl rfl rfl (lb rfl) rfl rfl ?_
              refine AOps.cd hT hA { tk := [67] } (by (repeat (cbv; simp only [c104])); first | done | cbv) (lb rfl) ?_
              exact nT ⟨_, (soI hsK108).symm, rfl, (by first | (cbv; done) | ((repeat (cbv; simp only [c104])); first | done | cbv))⟩
          · rintro _ ⟨v107, hkK108, rfl⟩
            have hsK116 := (hK108 _ hkK108)
            refine xB ?_
            refine nT ?_
            obtain ⟨_, e109, hsK116⟩ := bindS hsK116
            have f111 := ckI e109
            obtain ⟨_, e110, hsK116⟩ := bindS hsK116
            have f112 := ckI e110
            obtain ⟨d113, e114, hsK116⟩ := bindS hsK116
            refine AWp.rg hT hA { tk := [8, 71] } (by (repeat (cbv; simp only [f111, f112, e114])); first | done | cbv) (lb rfl) ?_
            refine nB ?_
            refine nT ?_
            refine AWp.rg hT hA {} (by cbv) (lb rfl) ?_
            exact nT ⟨_, (soI hsK116).symm, rfl, (by cbv)⟩
        · replace hsK116 := cF c94 hsK116
          refine AWp.cdF rfl (by first | rfl | simp only [c94, Bool.not_true, Bool.not_false, cond_true, cond_false]) ?_
          refine AWp.exit ?_
          refine xT ?_
          refine xT ?_
          refine exL hsK116 fun hx => ?_
          subst hx
          exact oxI ⟨rfl, _, hkK116, (by first | (cbv; done) | ((repeat (cbv; simp only [c94])); first | done | cbv))⟩
      · rintro _ ⟨v115, hkK116, rfl⟩
        have h := (hK116 _ hkK116)
        refine xB ?_
        refine nT ?_
        refine AWp.seq ?_
        refine AWp.seq ?_
        refine AWp.rg hT hA {} (by cbv) (lb rfl) ?_
        refine nT ?_
        refine AWp.block ?_
        obtain ⟨xK218, hxK218, K218, hK218, hkK218⟩ := bindK h
        refine AWp.cutX 6 [4] [] 1 (lb rfl) (fun τ => ∃ v217, K218 v217 = some (.inr ()) ∧ τ = { env := [(4, (.ptr 0 0))], heap := [(.arr 1 v217)], n := 111 }) ?_ ?_
        · skip
          refine AWp.iter hxK218 [1, 4, 10] [] 1 (lb rfl) (fun (v166, v167) => { env := [(1, (.lbox [(.d (.int .i64 x1)), (.d (.list 3 x2))])), (4, (.ptr 0 0)), (10, (.d (.int .i64 v166)))], heap := [(.arr 1 v167)], n := 111 }) ⟨rfl, (by cbv)⟩ ?_
          rintro ⟨v166, v167⟩ eK218 hsK218
          dsimp only [R58L4] at hsK218
          refine AWp.seq ?_
          refine AWp.seq ?_
          refine AWp.rg hT hA {} (by cbv) (lb rfl) ?_
          refine nT ?_
          rcases tf (A.zle v166 3) with c168 | c168
          · replace hsK218 := cT c168 hsK218
            refine AWp.cdT rfl (by first | rfl | simp only [c168, Bool.not_true, Bool.not_false, cond_true, cond_false]) ?_
            refine AWp.skip ?_
            refine nT ?_
            refine AWp.seq ?_
            refine AWp.block ?_
            refine AWp.seq ?_
            refine AWp.rg hT hA {} (by (repeat (cbv; simp only [c168])); first | done | cbv) (lb rfl) ?_
            refine nT ?_
            refine AWp.block ?_
            obtain ⟨xK216, hxK216, K216, hK216, hkK216⟩ := bindK hsK218
            refine AWp.cutX 8 [1, 4, 10] [] 1 (lb rfl) (fun τ => ∃ v215, K216 v215 = some eK218 ∧ τ = { env := [(1, (.lbox [(.d (.int .i64 x1)), (.d (.list 3 x2))])), (4, (.ptr 0 0)), (10, (.d (.int .i64 v166)))], heap := [(.arr 1 v215)], n := 111 }) ?_ ?_
            · skip
              refine AWp.iter hxK216 [1, 4, 10, 82, 83] [] 1 (lb rfl) (fun (v191, v192) => { env := [(1, (.lbox [(.d (.int .i64 x1)), (.d (.list 3 x2))])), (4, (.ptr 0 0)), (10, (.d (.int .i64 v166))), (82, (.d (.int .i64 x1))), (83, (.d (.int .i64 v191)))], heap := [(.arr 1 v192)], n := 111 }) ⟨rfl, (by first | (cbv; done) | ((repeat (cbv; simp only [c168])); first | done | cbv))⟩ ?_
              rintro ⟨v191, v192⟩ eK216 hsK216
              dsimp only [R58L3] at hsK216
              refine AWp.seq ?_
              refine AWp.rg hT hA {} (by cbv) (lb rfl) ?_
              refine nT ?_
              refine AWp.seq ?_
              rcases tf (A.zlt v191 x1) with c193 | c193
              · replace hsK216 := cT c193 hsK216
                refine AWp.cdT rfl (by first | rfl | simp only [c193, Bool.not_true, Bool.not_false, cond_true, cond_false]) ?_
                refine AWp.skip ?_
                refine nT ?_
                refine AWp.seq ?_
                refine AWp.block ?_
                refine AWp.seq ?_
                refine AWp.rg hT hA {} (by (repeat (cbv; simp only [c193])); first | done | cbv) (lb rfl) ?_
                refine nT ?_
                refine AWp.regionDraw rfl (lb rfl) ?_
                obtain ⟨_, e194, hsK216⟩ := bindS hsK216
                have f196 := ckI e194
                obtain ⟨_, e195, hsK216⟩ := bindS hsK216
                have f197 := ckI e195
                obtain ⟨a198, e199, hsK216⟩ := bindS hsK216
                have f200 := gcI e199
                obtain ⟨r202, e201, hsK216⟩ := bindS hsK216
                refine DOps.cp hT hA { tk := [104] } rfl (by (repeat (cbv; simp only [c193, f196, f197, f200])); first | done | cbv) (R68w hA e201) rfl rfl rfl rfl (lb rfl) rfl rfl ?_
                obtain ⟨r204, e203, hsK216⟩ := bindS hsK216
                refine DOps.cp hT hA { tk := [104] } rfl (by (repeat (cbv; simp only [c193, f196, f197, f200])); first | done | cbv) (R68aw hA e203) rfl rfl rfl rfl (lb rfl) rfl rfl ?_
                obtain ⟨_, e205, hsK216⟩ := bindS hsK216
                have f207 := ckI e205
                obtain ⟨_, e206, hsK216⟩ := bindS hsK216
                have f208 := ckI e206
                obtain ⟨_, e209, hsK216⟩ := bindS hsK216
                have f211 := ckI e209
                obtain ⟨_, e210, hsK216⟩ := bindS hsK216
                have f212 := ckI e210
                obtain ⟨d213, e214, hsK216⟩ := bindS hsK216
                refine DOps.cd hT hA { tk := [104] } rfl (by (repeat (cbv; simp only [c193, f196, f197, f200, f207, f208, f211, f212, e214])); first | done | cbv) (by kernel_rfl) ?_
                refine nB ?_
                refine nT ?_
                refine AWp.rg hT hA {} (by (repeat (cbv; simp only [c193])); first | done | cbv) (lb rfl) ?_
                exact nT ⟨_, (soI hsK216).symm, rfl, (by first | (cbv; done) | ((repeat (cbv; simp only [c193])); first | done | cbv))⟩
              · replace hsK216 := cF c193 hsK216
                refine AWp.cdF rfl (by first | rfl | simp only [c193, Bool.not_true, Bool.not_false, cond_true, cond_false]) ?_
                refine AWp.exit ?_
                refine xT ?_
                refine xT ?_
                refine exL hsK216 fun hx => ?_
                subst hx
                exact oxI ⟨rfl, _, hkK216, (by first | (cbv; done) | ((repeat (cbv; simp only [c193])); first | done | cbv))⟩
            · rintro _ ⟨v215, hkK216, rfl⟩
              have hsK218 := (hK216 _ hkK216)
              refine xB ?_
              refine nB ?_
              refine nT ?_
              refine AWp.rg hT hA {} (by cbv) (lb rfl) ?_
              exact nT ⟨_, (soI hsK218).symm, rfl, (by cbv)⟩
          · replace hsK218 := cF c168 hsK218
            refine AWp.cdF rfl (by first | rfl | simp only [c168, Bool.not_true, Bool.not_false, cond_true, cond_false]) ?_
            refine AWp.exit ?_
            refine xT ?_
            refine xT ?_
            refine exL hsK218 fun hx => ?_
            subst hx
            exact oxI ⟨rfl, _, hkK218, (by first | (cbv; done) | ((repeat (cbv; simp only [c168])); first | done | cbv))⟩
        · rintro _ ⟨v217, hkK218, rfl⟩
          have h := (hK218 _ hkK218)
          refine xB ?_
          refine nT ?_
          refine AWp.seq ?_
          refine AWp.rg hT hA {} (by cbv) (lb rfl) ?_
          refine nT ?_
          refine AWp.ret ?_
          cases soI h
  · replace h := cF c5 h
    refine AWp.cdT rfl (by first | rfl | simp only [c5, Bool.not_true, Bool.not_false, cond_true, cond_false]) ?_
    refine AWp.seq ?_
    refine AWp.rg hT hA {} (by (repeat (cbv; simp only [c5])); first | done | cbv) (lb rfl) ?_
    refine nT ?_
    refine AWp.ret ?_
    refine rT ?_
    cases soI h
    exact ⟨rfl, rfl, rfl, lb rfl, _, rfl⟩

theorem R68bw {A : Ar} (hA : A = Ar.std) {x1 : Int} {x2 : Int} {x3 : List D} {x4 : List D} {v43 : Int} (h : R68b A x1 x2 x3 x4 = some v43) : ACall Try.prog 68 [(.ptr 1 2), (.d (.int .i64 x1)), (.d (.int .u8 x2))] [(.arr 1 x3), (.arr 1 x4)] (.d (.int .u8 v43)) [(.arr 1 x3), (.arr 1 x4)] := by
  unfold R68b at h
  refine ACall.enter hT (fn := Try.f68) Try.func68 rfl (by decide) (by simp [Try.f68]) rfl rfl rfl rfl (lb rfl) ?_
  refine AWp.seq ?_
  refine AWp.rg hT hA {} (by cbv) (lb rfl) ?_
  refine nT ?_
  refine AWp.seq ?_
  refine AWp.rg hT hA {} (by cbv) (lb rfl) ?_
  refine nT ?_
  refine AWp.seq ?_
  refine AWp.seq ?_
  refine AWp.region ?_
  obtain ⟨r6, e5, h⟩ := bindS h
  refine AOps.cc hT hA {} (by cbv) (lb rfl) (R76w hA e5) rfl (.inr rfl) rfl rfl rfl (lb rfl) rfl rfl ?_
  refine AOps.cd hT hA {} (by cbv) (lb rfl) ?_
  refine nT ?_
  refine AWp.block ?_
  obtain ⟨xK42, hxK42, K42, hK42, hkK42⟩ := bindK h
  refine AWp.cutX 0 [7] [] 2 (lb rfl) (fun τ => ∃ v41, K42 v41 = some v43 ∧ τ = { env := [(7, (.d (.int .u8 v41)))], heap := [(.arr 1 x3), (.arr 1 x4)], n := 28 }) ?_ ?_
  · skip
    refine AWp.iter hxK42 [0, 1, 7, 11, 12, 13] [] 2 (lb rfl) (fun (v23, v24) => { env := [(0, (.ptr 1 2)), (1, (.d (.int .i64 x1))), (7, (.d (.int .u8 v23))), (11, (.own 1 r6)), (12, (.d (.int .i64 (A.len r6)))), (13, (.d (.int .i64 v24)))], heap := [(.arr 1 x3), (.arr 1 x4)], n := 28 }) ⟨rfl, (by cbv)⟩ ?_
    rintro ⟨v23, v24⟩ eK42 hsK42
    dsimp only [R68bL0] at hsK42
    refine AWp.seq ?_
    refine AWp.rg hT hA {} (by cbv) (lb rfl) ?_
    refine nT ?_
    refine AWp.seq ?_
    rcases tf (A.zlt v24 (A.len r6)) with c25 | c25
    · replace hsK42 := cT c25 hsK42
      refine AWp.cdT rfl (by first | rfl | simp only [c25, Bool.not_true, Bool.not_false, cond_true, cond_false]) ?_
      refine AWp.skip ?_
      refine nT ?_
      refine AWp.seq ?_
      refine AWp.block ?_
      refine AWp.seq ?_
      obtain ⟨a26, e27, hsK42⟩ := bindS hsK42
      obtain ⟨f28, f29⟩ := gtI e27
      refine AWp.rg hT hA {} (by (repeat (cbv; simp only [c25, f28, f29])); first | done | cbv) (lb rfl) ?_
      refine nT ?_
      obtain ⟨_, e30, hsK42⟩ := bindS hsK42
      have f32 := ckI e30
      obtain ⟨_, e31, hsK42⟩ := bindS hsK42
      have f33 := ckI e31
      obtain ⟨_, e34, hsK42⟩ := bindS hsK42
      have f36 := ckI e34
      obtain ⟨_, e35, hsK42⟩ := bindS hsK42
      have f37 := ckI e35
      obtain ⟨a38, e39, hsK42⟩ := bindS hsK42
      have f40 := gcI e39
      refine AWp.rg hT hA { tk := [25] } (by (repeat (cbv; simp only [c25, f32, f33, f36, f37, f40])); first | done | cbv) (lb rfl) ?_
      refine nB ?_
      refine nT ?_
      refine AWp.rg hT hA {} (by (repeat (cbv; simp only [c25])); first | done | cbv) (lb rfl) ?_
      exact nT ⟨_, (soI hsK42).symm, rfl, (by first | (cbv; done) | ((repeat (cbv; simp only [c25])); first | done | cbv))⟩
    · replace hsK42 := cF c25 hsK42
      refine AWp.cdF rfl (by first | rfl | simp only [c25, Bool.not_true, Bool.not_false, cond_true, cond_false]) ?_
      refine AWp.exit ?_
      refine xT ?_
      refine xT ?_
      refine exL hsK42 fun hx => ?_
      subst hx
      exact oxI ⟨rfl, _, hkK42, (by first | (cbv; done) | ((repeat (cbv; simp only [c25])); first | done | cbv))⟩
  · rintro _ ⟨v41, hkK42, rfl⟩
    have h := (hK42 _ hkK42)
    refine xB ?_
    refine nT ?_
    refine AWp.seq ?_
    refine AWp.rg hT hA { tk := [7, 27] } (by cbv) (lb rfl) ?_
    refine nT ?_
    refine AWp.ret ?_
    cases soI h
    exact ⟨rfl, rfl, rfl, lb rfl, _, rfl⟩

theorem R68cw {A : Ar} (hA : A = Ar.std) {x1 : Int} {x2 : Int} {x3 : List D} {x4 : List D} {v43 : Int} (h : R68c A x1 x2 x3 x4 = some v43) : ACall Try.prog 68 [(.ptr 1 26), (.d (.int .i64 x1)), (.d (.int .u8 x2))] [(.arr 1 x3), (.arr 1 x4)] (.d (.int .u8 v43)) [(.arr 1 x3), (.arr 1 x4)] := by
  unfold R68c at h
  refine ACall.enter hT (fn := Try.f68) Try.func68 rfl (by decide) (by simp [Try.f68]) rfl rfl rfl rfl (lb rfl) ?_
  refine AWp.seq ?_
  refine AWp.rg hT hA {} (by cbv) (lb rfl) ?_
  refine nT ?_
  refine AWp.seq ?_
  refine AWp.rg hT hA {} (by cbv) (lb rfl) ?_
  refine nT ?_
  refine AWp.seq ?_
  refine AWp.seq ?_
  refine AWp.region ?_
  obtain ⟨r6, e5, h⟩ := bindS h
  refine AOps.cc hT hA {} (by cbv) (lb rfl) (R76w hA e5) rfl (.inr rfl) rfl rfl rfl (lb rfl) rfl rfl ?_
  refine AOps.cd hT hA {} (by cbv) (lb rfl) ?_
  refine nT ?_
  refine AWp.block ?_
  obtain ⟨xK42, hxK42, K42, hK42, hkK42⟩ := bindK h
  refine AWp.cutX 0 [7] [] 2 (lb rfl) (fun τ => ∃ v41, K42 v41 = some v43 ∧ τ = { env := [(7, (.d (.int .u8 v41)))], heap := [(.arr 1 x3), (.arr 1 x4)], n := 28 }) ?_ ?_
  · skip
    refine AWp.iter hxK42 [0, 1, 7, 11, 12, 13] [] 2 (lb rfl) (fun (v23, v24) => { env := [(0, (.ptr 1 26)), (1, (.d (.int .i64 x1))), (7, (.d (.int .u8 v23))), (11, (.own 1 r6)), (12, (.d (.int .i64 (A.len r6)))), (13, (.d (.int .i64 v24)))], heap := [(.arr 1 x3), (.arr 1 x4)], n := 28 }) ⟨rfl, (by cbv)⟩ ?_
    rintro ⟨v23, v24⟩ eK42 hsK42
    dsimp only [R68cL0] at hsK42
    refine AWp.seq ?_
    refine AWp.rg hT hA {} (by cbv) (lb rfl) ?_
    refine nT ?_
    refine AWp.seq ?_
    rcases tf (A.zlt v24 (A.len r6)) with c25 | c25
    · replace hsK42 := cT c25 hsK42
      refine AWp.cdT rfl (by first | rfl | simp only [c25, Bool.not_true, Bool.not_false, cond_true, cond_false]) ?_
      refine AWp.skip ?_
      refine nT ?_
      refine AWp.seq ?_
      refine AWp.block ?_
      refine AWp.seq ?_
      obtain ⟨a26, e27, hsK42⟩ := bindS hsK42
      obtain ⟨f28, f29⟩ := gtI e27
      refine AWp.rg hT hA {} (by (repeat (cbv; simp only [c25, f28, f29])); first | done | cbv) (lb rfl) ?_
      refine nT ?_
      obtain ⟨_, e30, hsK42⟩ := bindS hsK42
      have f32 := ckI e30
      obtain ⟨_, e31, hsK42⟩ := bindS hsK42
      have f33 := ckI e31
      obtain ⟨_, e34, hsK42⟩ := bindS hsK42
      have f36 := ckI e34
      obtain ⟨_, e35, hsK42⟩ := bindS hsK42
      have f37 := ckI e35
      obtain ⟨a38, e39, hsK42⟩ := bindS hsK42
      have f40 := gcI e39
      refine AWp.rg hT hA { tk := [25] } (by (repeat (cbv; simp only [c25, f32, f33, f36, f37, f40])); first | done | cbv) (lb rfl) ?_
      refine nB ?_
      refine nT ?_
      refine AWp.rg hT hA {} (by (repeat (cbv; simp only [c25])); first | done | cbv) (lb rfl) ?_
      exact nT ⟨_, (soI hsK42).symm, rfl, (by first | (cbv; done) | ((repeat (cbv; simp only [c25])); first | done | cbv))⟩
    · replace hsK42 := cF c25 hsK42
      refine AWp.cdF rfl (by first | rfl | simp only [c25, Bool.not_true, Bool.not_false, cond_true, cond_false]) ?_
      refine AWp.exit ?_
      refine xT ?_
      refine xT ?_
      refine exL hsK42 fun hx => ?_
      subst hx
      exact oxI ⟨rfl, _, hkK42, (by first | (cbv; done) | ((repeat (cbv; simp only [c25])); first | done | cbv))⟩
  · rintro _ ⟨v41, hkK42, rfl⟩
    have h := (hK42 _ hkK42)
    refine xB ?_
    refine nT ?_
    refine AWp.seq ?_
    refine AWp.rg hT hA { tk := [7, 27] } (by cbv) (lb rfl) ?_
    refine nT ?_
    refine AWp.ret ?_
    cases soI h
    exact ⟨rfl, rfl, rfl, lb rfl, _, rfl⟩

theorem R58awa {A : Ar} (hA : A = Ar.std) {x1 : Int} {x2 : List D} {x3 : List D} {v220 : List D} (h : R58a A x1 x2 x3 = some (.inl v220)) : ACall Try.prog 58 [(.d (.agg [(.int .i64 x1), (.list 3 x2)]))] [(.arr 1 x3)] (.tuple [(.ptr 1 0), (.d (.int .i64 0))]) [(.arr 1 x3), (.arr 1 v220)] := by
  unfold R58a at h
  refine ACall.enter hT (fn := Try.f58) Try.func58 rfl (by decide) (by simp [Try.f58]) rfl rfl rfl rfl (lb rfl) ?_
  refine AWp.seq ?_
  refine AWp.rg hT hA {} (by cbv) (lb rfl) ?_
  refine nT ?_
  refine AWp.seq ?_
  refine AWp.seq ?_
  refine AWp.region ?_
  obtain ⟨r5, e4, h⟩ := bindS h
  refine AOps.cc hT hA {} (by cbv) (lb rfl) (R33w hA e4) rfl (.inr rfl) rfl rfl rfl (lb rfl) rfl rfl ?_
  refine AOps.cd hT hA {} (by cbv) (lb rfl) ?_
  refine nT ?_
  rcases tf r5 with c6 | c6
  · replace h := cT c6 h
    refine AWp.cdF rfl (by first | rfl | simp only [c6, Bool.not_true, Bool.not_false, cond_true, cond_false]) ?_
    refine AWp.skip ?_
    refine nT ?_
    refine AWp.seq ?_
    have f7 := lnF hA (l := [(.int .i64 x1), (.list 3 x2), (.int .u8 0), (.int .u8 0), (.int .u8 0), (.int .u8 0), (.int .u8 0), (.int .u8 0), (.int .u8 0), (.int .u8 0), (.int .u8 0), (.int .u8 0), (.int .u8 0), (.int .u8 0), (.int .u8 0), (.int .u8 0), (.int .u8 0), (.int .u8 0), (.int .u8 0), (.int .u8 0), (.int .u8 0), (.int .u8 0), (.int .u8 0), (.int .u8 0), (.int .u8 0), (.int .u8 0), (.int .u8 0), (.int .u8 0), (.int .u8 0), (.int .u8 0), (.int .u8 0), (.int .u8 0), (.int .u8 0), (.int .u8 0), (.int .u8 0), (.int .u8 0), (.int .u8 0), (.int .u8 0), (.int .u8 0), (.int .u8 0), (.int .u8 0), (.int .u8 0), (.int .u8 0), (.int .u8 0), (.int .u8 0), (.int .u8 0), (.int .u8 0), (.int .u8 0), (.int .u8 0), (.int .u8 0)]) (n := 50) rfl
    refine AWp.rg hT hA { arr := [17] } (by (repeat (cbv; simp only [c6, f7])); first | done | cbv) (lb rfl) ?_
    refine nT ?_
    refine AWp.seq ?_
    refine AWp.seq ?_
    refine AWp.rg hT hA {} (by (repeat (cbv; simp only [c6])); first | done | cbv) (lb rfl) ?_
    refine nT ?_
    refine AWp.block ?_
    obtain ⟨xK71, hxK71, K71, hK71, hkK71⟩ := bindK h
    refine AWp.cutX 0 [1, 4] [] 2 (lb rfl) (fun τ => ∃ v70, K71 v70 = some (.inl v220) ∧ τ = { env := [(1, (.lbox [(.d (.int .i64 x1)), (.d (.list 3 x2))])), (4, (.ptr 1 0))], heap := [(.arr 1 x3), (.arr 1 v70)], n := 111 }) ?_ ?_
    · skip
      refine AWp.iter hxK71 [1, 4, 19, 20, 21] [] 2 (lb rfl) (fun (v38, v39) => { env := [(1, (.lbox [(.d (.int .i64 x1)), (.d (.list 3 x2))])), (4, (.ptr 1 0)), (19, (.d (.list 3 x2))), (20, (.d (.int .i64 (A.len x2)))), (21, (.d (.int .i64 v38)))], heap := [(.arr 1 x3), (.arr 1 v39)], n := 111 }) ⟨rfl, (by first | (cbv; done) | ((repeat (cbv; simp only [c6])); first | done | cbv))⟩ ?_
      rintro ⟨v38, v39⟩ eK71 hsK71
      dsimp only [R58aL0] at hsK71
      refine AWp.seq ?_
      refine AWp.rg hT hA {} (by cbv) (lb rfl) ?_
      refine nT ?_
      refine AWp.seq ?_
      rcases tf (A.zlt v38 (A.len x2)) with c40 | c40
      · replace hsK71 := cT c40 hsK71
        refine AWp.cdT rfl (by first | rfl | simp only [c40, Bool.not_true, Bool.not_false, cond_true, cond_false]) ?_
        refine AWp.skip ?_
        refine nT ?_
        refine AWp.seq ?_
        refine AWp.block ?_
        refine AWp.seq ?_
        obtain ⟨⟨a41, a42, a43⟩, e44, hsK71⟩ := bindS hsK71
        obtain ⟨f45, f46⟩ := gtI e44
        refine AWp.rg hT hA { tk := [24] } (by (repeat (cbv; simp only [c40, f45, f46])); first | done | cbv) (lb rfl) ?_
        refine nT ?_
        obtain ⟨_, e47, hsK71⟩ := bindS hsK71
        have f49 := ckI e47
        obtain ⟨_, e48, hsK71⟩ := bindS hsK71
        have f50 := ckI e48
        obtain ⟨_, e51, hsK71⟩ := bindS hsK71
        have f53 := ckI e51
        obtain ⟨_, e52, hsK71⟩ := bindS hsK71
        have f54 := ckI e52
        obtain ⟨a55, e56, hsK71⟩ := bindS hsK71
        have f57 := gcI e56
        obtain ⟨_, e58, hsK71⟩ := bindS hsK71
        have f59 := nkI e58
        obtain ⟨_, e60, hsK71⟩ := bindS hsK71
        have f62 := ckI e60
        obtain ⟨_, e61, hsK71⟩ := bindS hsK71
        have f63 := ckI e61
        obtain ⟨_, e64, hsK71⟩ := bindS hsK71
        have f66 := ckI e64
        obtain ⟨_, e65, hsK71⟩ := bindS hsK71
        have f67 := ckI e65
        obtain ⟨d68, e69, hsK71⟩ := bindS hsK71
        refine AWp.rd hT hA { tk := [38] } rfl (by (repeat (cbv; simp only [c40, f49, f50, f53, f54, f57, f59, f62, f63, f66, f67, e69])); first | done | cbv) (by kernel_rfl) (lb rfl) ?_
        refine nB ?_
        refine nT ?_
        refine AWp.rg hT hA {} (by (repeat (cbv; simp only [c40])); first | done | cbv) (lb rfl) ?_
        exact nT ⟨_, (soI hsK71).symm, rfl, (by first | (cbv; done) | ((repeat (cbv; simp only [c40])); first | done | cbv))⟩
      · replace hsK71 := cF c40 hsK71
        refine AWp.cdF rfl (by first | rfl | simp only [c40, Bool.not_true, Bool.not_false, cond_true, cond_false]) ?_
        refine AWp.exit ?_
        refine xT ?_
        refine xT ?_
        refine exL hsK71 fun hx => ?_
        subst hx
        exact oxI ⟨rfl, _, hkK71, (by first | (cbv; done) | ((repeat (cbv; simp only [c40])); first | done | cbv))⟩
    · rintro _ ⟨v70, hkK71, rfl⟩
      have h := (hK71 _ hkK71)
      refine xB ?_
      refine nT ?_
      refine AWp.seq ?_
      refine AWp.seq ?_
      refine AWp.rg hT hA {} (by cbv) (lb rfl) ?_
      refine nT ?_
      refine AWp.block ?_
      obtain ⟨xK117, hxK117, K117, hK117, hkK117⟩ := bindK h
      refine AWp.cutX 2 [1, 4] [] 2 (lb rfl) (fun τ => ∃ v116, K117 v116 = some (.inl v220) ∧ τ = { env := [(1, (.lbox [(.d (.int .i64 x1)), (.d (.list 3 x2))])), (4, (.ptr 1 0))], heap := [(.arr 1 x3), (.arr 1 v116)], n := 111 }) ?_ ?_
      · skip
        refine AWp.iter hxK117 [1, 4, 45, 46] [] 2 (lb rfl) (fun (v93, v94) => { env := [(1, (.lbox [(.d (.int .i64 x1)), (.d (.list 3 x2))])), (4, (.ptr 1 0)), (45, (.d (.int .i64 x1))), (46, (.d (.int .i64 v93)))], heap := [(.arr 1 x3), (.arr 1 v94)], n := 111 }) ⟨rfl, (by cbv)⟩ ?_
        rintro ⟨v93, v94⟩ eK117 hsK117
        dsimp only [R58aL2] at hsK117
        refine AWp.seq ?_
        refine AWp.rg hT hA {} (by cbv) (lb rfl) ?_
        refine nT ?_
        refine AWp.seq ?_
        rcases tf (A.zlt v93 x1) with c95 | c95
        · replace hsK117 := cT c95 hsK117
          refine AWp.cdT rfl (by first | rfl | simp only [c95, Bool.not_true, Bool.not_false, cond_true, cond_false]) ?_
          refine AWp.skip ?_
          refine nT ?_
          refine AWp.seq ?_
          refine AWp.block ?_
          refine AWp.seq ?_
          refine AWp.rg hT hA {} (by (repeat (cbv; simp only [c95])); first | done | cbv) (lb rfl) ?_
          refine nT ?_
          refine AWp.seq ?_
          obtain ⟨_, e96, hsK117⟩ := bindS hsK117
          have f97 := nkI e96
          refine AWp.rg hT hA { tk := [50] } (by (repeat (cbv; simp only [c95, f97])); first | done | cbv) (lb rfl) ?_
          refine nT ?_
          refine AWp.seq ?_
          refine AWp.seq ?_
          refine AWp.region ?_
          obtain ⟨r99, e98, hsK117⟩ := bindS hsK117
          refine AOps.cc hT hA { tk := [57] } (by (repeat (cbv; simp only [c95])); first | done | cbv) (lb rfl) (R68bw hA e98) rfl (.inl rfl) rfl rfl rfl (lb rfl) rfl rfl ?_
          refine AOps.cd hT hA { tk := [57] } (by (repeat (cbv; simp only [c95])); first | done | cbv) (lb rfl) ?_
          refine nT ?_
          refine AWp.block ?_
          obtain ⟨xK109, hxK109, K109, hK109, hkK109⟩ := bindK hsK117
          refine AWp.cutX 4 [1, 4, 7, 8, 45, 46] [] 2 (lb rfl) (fun τ => ∃ v108, K109 v108 = some eK117 ∧ τ = { env := [(1, (.lbox [(.d (.int .i64 x1)), (.d (.list 3 x2))])), (4, (.ptr 1 0)), (7, (.d (.int .i64 v93))), (8, (.d (.int .u8 v108))), (45, (.d (.int .i64 x1))), (46, (.d (.int .i64 v93)))], heap := [(.arr 1 x3), (.arr 1 v94)], n := 111 }) ?_ ?_
          · skip
            refine AWp.iter hxK109 [1, 4, 7, 8, 9, 45, 46] [] 2 (lb rfl) (fun (v103, v104) => { env := [(1, (.lbox [(.d (.int .i64 x1)), (.d (.list 3 x2))])), (4, (.ptr 1 0)), (7, (.d (.int .i64 v93))), (8, (.d (.int .u8 v103))), (9, (.d (.int .u8 v104))), (45, (.d (.int .i64 x1))), (46, (.d (.int .i64 v93)))], heap := [(.arr 1 x3), (.arr 1 v94)], n := 111 }) ⟨rfl, (by first | (cbv; done) | ((repeat (cbv; simp only [c95])); first | done | cbv))⟩ ?_
            rintro ⟨v103, v104⟩ eK109 hsK109
            dsimp only [R58aL1] at hsK109
            refine AWp.seq ?_
            refine AWp.seq ?_
            refine AWp.rg hT hA {} (by cbv) (lb rfl) ?_
            refine nT ?_
            rcases tf (A.zeq v104 v103) with c105 | c105
            · replace hsK109 := cT c105 hsK109
              refine AWp.cdF rfl (by first | rfl | simp only [c105, Bool.not_true, Bool.not_false, cond_true, cond_false]) ?_
              refine AWp.exit ?_
              refine xT ?_
              refine xT ?_
              refine exL hsK109 fun hx => ?_
              subst hx
              exact oxI ⟨rfl, _, hkK109, (by first | (cbv; done) | ((repeat (cbv; simp only [c105])); first | done | cbv))⟩
            · replace hsK109 := cF c105 hsK109
              refine AWp.cdT rfl (by first | rfl | simp only [c105, Bool.not_true, Bool.not_false, cond_true, cond_false]) ?_
              refine AWp.skip ?_
              refine nT ?_
              refine AWp.seq ?_
              refine AWp.block ?_
              refine AWp.rg hT hA { tk := [9, 68] } (by (repeat (cbv; simp only [c105])); first | done | cbv) (lb rfl) ?_
              refine nB ?_
              refine nT ?_
              refine AWp.region ?_
              obtain ⟨r107, e106, hsK109⟩ := bindS hsK109
              refine AOps.cc hT hA { tk := [67] } (by (repeat (cbv; simp only [c105])); first | done | cbv) (lb rfl) (R68bw hA e106) rfl (.inl rfl) rfl rfl rfl (lb rfl) rfl rfl ?_
              refine AOps.cd hT hA { tk := [67] } (by (repeat (cbv; simp only [c105])); first | done | cbv) (lb rfl) ?_
              exact nT ⟨_, (soI hsK109).symm, rfl, (by first | (cbv; done) | ((repeat (cbv; simp only [c105])); first | done | cbv))⟩
          · rintro _ ⟨v108, hkK109, rfl⟩
            have hsK117 := (hK109 _ hkK109)
            refine xB ?_
            refine nT ?_
            obtain ⟨_, e110, hsK117⟩ := bindS hsK117
            have f112 := ckI e110
            obtain ⟨_, e111, hsK117⟩ := bindS hsK117
            have f113 := ckI e111
            obtain ⟨d114, e115, hsK117⟩ := bindS hsK117
            refine AWp.rg hT hA { tk := [8, 71] } (by (repeat (cbv; simp only [f112, f113, e115])); first | done | cbv) (lb rfl) ?_
            refine nB ?_
            refine nT ?_
            refine AWp.rg hT hA {} (by cbv) (lb rfl) ?_
            exact nT ⟨_, (soI hsK117).symm, rfl, (by cbv)⟩
        · replace hsK117 := cF c95 hsK117
          refine AWp.cdF rfl (by first | rfl | simp only [c95, Bool.not_true, Bool.not_false, cond_true, cond_false]) ?_
          refine AWp.exit ?_
          refine xT ?_
          refine xT ?_
          refine exL hsK117 fun hx => ?_
          subst hx
          exact oxI ⟨rfl, _, hkK117, (by first | (cbv; done) | ((repeat (cbv; simp only [c95])); first | done | cbv))⟩
      · rintro _ ⟨v116, hkK117, rfl⟩
        have h := (hK117 _ hkK117)
        refine xB ?_
        refine nT ?_
        refine AWp.seq ?_
        refine AWp.seq ?_
        refine AWp.rg hT hA {} (by cbv) (lb rfl) ?_
        refine nT ?_
        refine AWp.block ?_
        obtain ⟨xK219, hxK219, K219, hK219, hkK219⟩ := bindK h
        refine AWp.cutX 6 [4] [] 2 (lb rfl) (fun τ => ∃ v218, K219 v218 = some (.inl v220) ∧ τ = { env := [(4, (.ptr 1 0))], heap := [(.arr 1 x3), (.arr 1 v218)], n := 111 }) ?_ ?_
        · skip
          refine AWp.iter hxK219 [1, 4, 10] [] 2 (lb rfl) (fun (v167, v168) => { env := [(1, (.lbox [(.d (.int .i64 x1)), (.d (.list 3 x2))])), (4, (.ptr 1 0)), (10, (.d (.int .i64 v167)))], heap := [(.arr 1 x3), (.arr 1 v168)], n := 111 }) ⟨rfl, (by cbv)⟩ ?_
          rintro ⟨v167, v168⟩ eK219 hsK219
          dsimp only [R58aL4] at hsK219
          refine AWp.seq ?_
          refine AWp.seq ?_
          refine AWp.rg hT hA {} (by cbv) (lb rfl) ?_
          refine nT ?_
          rcases tf (A.zle v167 3) with c169 | c169
          · replace hsK219 := cT c169 hsK219
            refine AWp.cdT rfl (by first | rfl | simp only [c169, Bool.not_true, Bool.not_false, cond_true, cond_false]) ?_
            refine AWp.skip ?_
            refine nT ?_
            refine AWp.seq ?_
            refine AWp.block ?_
            refine AWp.seq ?_
            refine AWp.rg hT hA {} (by (repeat (cbv; simp only [c169])); first | done | cbv) (lb rfl) ?_
            refine nT ?_
            refine AWp.block ?_
            obtain ⟨xK217, hxK217, K217, hK217, hkK217⟩ := bindK hsK219
            refine AWp.cutX 8 [1, 4, 10] [] 2 (lb rfl) (fun τ => ∃ v216, K217 v216 = some eK219 ∧ τ = { env := [(1, (.lbox [(.d (.int .i64 x1)), (.d (.list 3 x2))])), (4, (.ptr 1 0)), (10, (.d (.int .i64 v167)))], heap := [(.arr 1 x3), (.arr 1 v216)], n := 111 }) ?_ ?_
            · skip
              refine AWp.iter hxK217 [1, 4, 10, 82, 83] [] 2 (lb rfl) (fun (v192, v193) => { env := [(1, (.lbox [(.d (.int .i64 x1)), (.d (.list 3 x2))])), (4, (.ptr 1 0)), (10, (.d (.int .i64 v167))), (82, (.d (.int .i64 x1))), (83, (.d (.int .i64 v192)))], heap := [(.arr 1 x3), (.arr 1 v193)], n := 111 }) ⟨rfl, (by first | (cbv; done) | ((repeat (cbv; simp only [c169])); first | done | cbv))⟩ ?_
              rintro ⟨v192, v193⟩ eK217 hsK217
              dsimp only [R58aL3] at hsK217
              refine AWp.seq ?_
              refine AWp.rg hT hA {} (by cbv) (lb rfl) ?_
              refine nT ?_
              refine AWp.seq ?_
              rcases tf (A.zlt v192 x1) with c194 | c194
              · replace hsK217 := cT c194 hsK217
                refine AWp.cdT rfl (by first | rfl | simp only [c194, Bool.not_true, Bool.not_false, cond_true, cond_false]) ?_
                refine AWp.skip ?_
                refine nT ?_
                refine AWp.seq ?_
                refine AWp.block ?_
                refine AWp.seq ?_
                refine AWp.rg hT hA {} (by (repeat (cbv; simp only [c194])); first | done | cbv) (lb rfl) ?_
                refine nT ?_
                refine AWp.regionDraw rfl (lb rfl) ?_
                obtain ⟨_, e195, hsK217⟩ := bindS hsK217
                have f197 := ckI e195
                obtain ⟨_, e196, hsK217⟩ := bindS hsK217
                have f198 := ckI e196
                obtain ⟨a199, e200, hsK217⟩ := bindS hsK217
                have f201 := gcI e200
                obtain ⟨r203, e202, hsK217⟩ := bindS hsK217
                refine DOps.cp hT hA { tk := [104] } rfl (by (repeat (cbv; simp only [c194, f197, f198, f201])); first | done | cbv) (R68bw hA e202) rfl rfl rfl rfl (lb rfl) rfl rfl ?_
                obtain ⟨r205, e204, hsK217⟩ := bindS hsK217
                refine DOps.cp hT hA { tk := [104] } rfl (by (repeat (cbv; simp only [c194, f197, f198, f201])); first | done | cbv) (R68cw hA e204) rfl rfl rfl rfl (lb rfl) rfl rfl ?_
                obtain ⟨_, e206, hsK217⟩ := bindS hsK217
                have f208 := ckI e206
                obtain ⟨_, e207, hsK217⟩ := bindS hsK217
                have f209 := ckI e207
                obtain ⟨_, e210, hsK217⟩ := bindS hsK217
                have f212 := ckI e210
                obtain ⟨_, e211, hsK217⟩ := bindS hsK217
                have f213 := ckI e211
                obtain ⟨d214, e215, hsK217⟩ := bindS hsK217
                refine DOps.cd hT hA { tk := [104] } rfl (by (repeat (cbv; simp only [c194, f197, f198, f201, f208, f209, f212, f213, e215])); first | done | cbv) (by kernel_rfl) ?_
                refine nB ?_
                refine nT ?_
                refine AWp.rg hT hA {} (by (repeat (cbv; simp only [c194])); first | done | cbv) (lb rfl) ?_
                exact nT ⟨_, (soI hsK217).symm, rfl, (by first | (cbv; done) | ((repeat (cbv; simp only [c194])); first | done | cbv))⟩
              · replace hsK217 := cF c194 hsK217
                refine AWp.cdF rfl (by first | rfl | simp only [c194, Bool.not_true, Bool.not_false, cond_true, cond_false]) ?_
                refine AWp.exit ?_
                refine xT ?_
                refine xT ?_
                refine exL hsK217 fun hx => ?_
                subst hx
                exact oxI ⟨rfl, _, hkK217, (by first | (cbv; done) | ((repeat (cbv; simp only [c194])); first | done | cbv))⟩
            · rintro _ ⟨v216, hkK217, rfl⟩
              have hsK219 := (hK217 _ hkK217)
              refine xB ?_
              refine nB ?_
              refine nT ?_
              refine AWp.rg hT hA {} (by cbv) (lb rfl) ?_
              exact nT ⟨_, (soI hsK219).symm, rfl, (by cbv)⟩
          · replace hsK219 := cF c169 hsK219
            refine AWp.cdF rfl (by first | rfl | simp only [c169, Bool.not_true, Bool.not_false, cond_true, cond_false]) ?_
            refine AWp.exit ?_
            refine xT ?_
            refine xT ?_
            refine exL hsK219 fun hx => ?_
            subst hx
            exact oxI ⟨rfl, _, hkK219, (by first | (cbv; done) | ((repeat (cbv; simp only [c169])); first | done | cbv))⟩
        · rintro _ ⟨v218, hkK219, rfl⟩
          have h := (hK219 _ hkK219)
          refine xB ?_
          refine nT ?_
          refine AWp.seq ?_
          refine AWp.rg hT hA {} (by cbv) (lb rfl) ?_
          refine nT ?_
          refine AWp.ret ?_
          cases soI h
          exact ⟨rfl, rfl, rfl, lb rfl, _, rfl⟩
  · replace h := cF c6 h
    refine AWp.cdT rfl (by first | rfl | simp only [c6, Bool.not_true, Bool.not_false, cond_true, cond_false]) ?_
    refine AWp.seq ?_
    refine AWp.rg hT hA {} (by (repeat (cbv; simp only [c6])); first | done | cbv) (lb rfl) ?_
    refine nT ?_
    refine AWp.ret ?_
    refine rT ?_
    cases soI h

theorem R58awb {A : Ar} (hA : A = Ar.std) {x1 : Int} {x2 : List D} {x3 : List D} (h : R58a A x1 x2 x3 = some (.inr ())) : ACall Try.prog 58 [(.d (.agg [(.int .i64 x1), (.list 3 x2)]))] [(.arr 1 x3)] (.tuple [.nilptr, (.d (.int .i64 50))]) [(.arr 1 x3)] := by
  unfold R58a at h
  refine ACall.enter hT (fn := Try.f58) Try.func58 rfl (by decide) (by simp [Try.f58]) rfl rfl rfl rfl (lb rfl) ?_
  refine AWp.seq ?_
  refine AWp.rg hT hA {} (by cbv) (lb rfl) ?_
  refine nT ?_
  refine AWp.seq ?_
  refine AWp.seq ?_
  refine AWp.region ?_
  obtain ⟨r5, e4, h⟩ := bindS h
  refine AOps.cc hT hA {} (by cbv) (lb rfl) (R33w hA e4) rfl (.inr rfl) rfl rfl rfl (lb rfl) rfl rfl ?_
  refine AOps.cd hT hA {} (by cbv) (lb rfl) ?_
  refine nT ?_
  rcases tf r5 with c6 | c6
  · replace h := cT c6 h
    refine AWp.cdF rfl (by first | rfl | simp only [c6, Bool.not_true, Bool.not_false, cond_true, cond_false]) ?_
    refine AWp.skip ?_
    refine nT ?_
    refine AWp.seq ?_
    have f7 := lnF hA (l := [(.int .i64 x1), (.list 3 x2), (.int .u8 0), (.int .u8 0), (.int .u8 0), (.int .u8 0), (.int .u8 0), (.int .u8 0), (.int .u8 0), (.int .u8 0), (.int .u8 0), (.int .u8 0), (.int .u8 0), (.int .u8 0), (.int .u8 0), (.int .u8 0), (.int .u8 0), (.int .u8 0), (.int .u8 0), (.int .u8 0), (.int .u8 0), (.int .u8 0), (.int .u8 0), (.int .u8 0), (.int .u8 0), (.int .u8 0), (.int .u8 0), (.int .u8 0), (.int .u8 0), (.int .u8 0), (.int .u8 0), (.int .u8 0), (.int .u8 0), (.int .u8 0), (.int .u8 0), (.int .u8 0), (.int .u8 0), (.int .u8 0), (.int .u8 0), (.int .u8 0), (.int .u8 0), (.int .u8 0), (.int .u8 0), (.int .u8 0), (.int .u8 0), (.int .u8 0), (.int .u8 0), (.int .u8 0), (.int .u8 0), (.int .u8 0)]) (n := 50) rfl
    refine AWp.rg hT hA { arr := [17] } (by (repeat (cbv; simp only [c6, f7])); first | done | cbv) (lb rfl) ?_
    refine nT ?_
    refine AWp.seq ?_
    refine AWp.seq ?_
    refine AWp.rg hT hA {} (by (repeat (cbv; simp only [c6])); first | done | cbv) (lb rfl) ?_
    refine nT ?_
    refine AWp.block ?_
    obtain ⟨xK71, hxK71, K71, hK71, hkK71⟩ := bindK h
    refine AWp.cutX 0 [1, 4] [] 2 (lb rfl) (fun τ => ∃ v70, K71 v70 = some (.inr ()) ∧ τ = { env := [(1, (.lbox [(.d (.int .i64 x1)), (.d (.list 3 x2))])), (4, (.ptr 1 0))], heap := [(.arr 1 x3), (.arr 1 v70)], n := 111 }) ?_ ?_
    · skip
      refine AWp.iter hxK71 [1, 4, 19, 20, 21] [] 2 (lb rfl) (fun (v38, v39) => { env := [(1, (.lbox [(.d (.int .i64 x1)), (.d (.list 3 x2))])), (4, (.ptr 1 0)), (19, (.d (.list 3 x2))), (20, (.d (.int .i64 (A.len x2)))), (21, (.d (.int .i64 v38)))], heap := [(.arr 1 x3), (.arr 1 v39)], n := 111 }) ⟨rfl, (by first | (cbv; done) | ((repeat (cbv; simp only [c6])); first | done | cbv))⟩ ?_
      rintro ⟨v38, v39⟩ eK71 hsK71
      dsimp only [R58aL0] at hsK71
      refine AWp.seq ?_
      refine AWp.rg hT hA {} (by cbv) (lb rfl) ?_
      refine nT ?_
      refine AWp.seq ?_
      rcases tf (A.zlt v38 (A.len x2)) with c40 | c40
      · replace hsK71 := cT c40 hsK71
        refine AWp.cdT rfl (by first | rfl | simp only [c40, Bool.not_true, Bool.not_false, cond_true, cond_false]) ?_
        refine AWp.skip ?_
        refine nT ?_
        refine AWp.seq ?_
        refine AWp.block ?_
        refine AWp.seq ?_
        obtain ⟨⟨a41, a42, a43⟩, e44, hsK71⟩ := bindS hsK71
        obtain ⟨f45, f46⟩ := gtI e44
        refine AWp.rg hT hA { tk := [24] } (by (repeat (cbv; simp only [c40, f45, f46])); first | done | cbv) (lb rfl) ?_
        refine nT ?_
        obtain ⟨_, e47, hsK71⟩ := bindS hsK71
        have f49 := ckI e47
        obtain ⟨_, e48, hsK71⟩ := bindS hsK71
        have f50 := ckI e48
        obtain ⟨_, e51, hsK71⟩ := bindS hsK71
        have f53 := ckI e51
        obtain ⟨_, e52, hsK71⟩ := bindS hsK71
        have f54 := ckI e52
        obtain ⟨a55, e56, hsK71⟩ := bindS hsK71
        have f57 := gcI e56
        obtain ⟨_, e58, hsK71⟩ := bindS hsK71
        have f59 := nkI e58
        obtain ⟨_, e60, hsK71⟩ := bindS hsK71
        have f62 := ckI e60
        obtain ⟨_, e61, hsK71⟩ := bindS hsK71
        have f63 := ckI e61
        obtain ⟨_, e64, hsK71⟩ := bindS hsK71
        have f66 := ckI e64
        obtain ⟨_, e65, hsK71⟩ := bindS hsK71
        have f67 := ckI e65
        obtain ⟨d68, e69, hsK71⟩ := bindS hsK71
        refine AWp.rd hT hA { tk := [38] } rfl (by (repeat (cbv; simp only [c40, f49, f50, f53, f54, f57, f59, f62, f63, f66, f67, e69])); first | done | cbv) (by kernel_rfl) (lb rfl) ?_
        refine nB ?_
        refine nT ?_
        refine AWp.rg hT hA {} (by (repeat (cbv; simp only [c40])); first | done | cbv) (lb rfl) ?_
        exact nT ⟨_, (soI hsK71).symm, rfl, (by first | (cbv; done) | ((repeat (cbv; simp only [c40])); first | done | cbv))⟩
      · replace hsK71 := cF c40 hsK71
        refine AWp.cdF rfl (by first | rfl | simp only [c40, Bool.not_true, Bool.not_false, cond_true, cond_false]) ?_
        refine AWp.exit ?_
        refine xT ?_
        refine xT ?_
        refine exL hsK71 fun hx => ?_
        subst hx
        exact oxI ⟨rfl, _, hkK71, (by first | (cbv; done) | ((repeat (cbv; simp only [c40])); first | done | cbv))⟩
    · rintro _ ⟨v70, hkK71, rfl⟩
      have h := (hK71 _ hkK71)
      refine xB ?_
      refine nT ?_
      refine AWp.seq ?_
      refine AWp.seq ?_
      refine AWp.rg hT hA {} (by cbv) (lb rfl) ?_
      refine nT ?_
      refine AWp.block ?_
      obtain ⟨xK117, hxK117, K117, hK117, hkK117⟩ := bindK h
      refine AWp.cutX 2 [1, 4] [] 2 (lb rfl) (fun τ => ∃ v116, K117 v116 = some (.inr ()) ∧ τ = { env := [(1, (.lbox [(.d (.int .i64 x1)), (.d (.list 3 x2))])), (4, (.ptr 1 0))], heap := [(.arr 1 x3), (.arr 1 v116)], n := 111 }) ?_ ?_
      · skip
        refine AWp.iter hxK117 [1, 4, 45, 46] [] 2 (lb rfl) (fun (v93, v94) => { env := [(1, (.lbox [(.d (.int .i64 x1)), (.d (.list 3 x2))])), (4, (.ptr 1 0)), (45, (.d (.int .i64 x1))), (46, (.d (.int .i64 v93)))], heap := [(.arr 1 x3), (.arr 1 v94)], n := 111 }) ⟨rfl, (by cbv)⟩ ?_
        rintro ⟨v93, v94⟩ eK117 hsK117
        dsimp only [R58aL2] at hsK117
        refine AWp.seq ?_
        refine AWp.rg hT hA {} (by cbv) (lb rfl) ?_
        refine nT ?_
        refine AWp.seq ?_
        rcases tf (A.zlt v93 x1) with c95 | c95
        · replace hsK117 := cT c95 hsK117
          refine AWp.cdT rfl (by first | rfl | simp only [c95, Bool.not_true, Bool.not_false, cond_true, cond_false]) ?_
          refine AWp.skip ?_
          refine nT ?_
          refine AWp.seq ?_
          refine AWp.block ?_
          refine AWp.seq ?_
          refine AWp.rg hT hA {} (by (repeat (cbv; simp only [c95])); first | done | cbv) (lb rfl) ?_
          refine nT ?_
          refine AWp.seq ?_
          obtain ⟨_, e96, hsK117⟩ := bindS hsK117
          have f97 := nkI e96
          refine AWp.rg hT hA { tk := [50] } (by (repeat (cbv; simp only [c95, f97])); first | done | cbv) (lb rfl) ?_
          refine nT ?_
          refine AWp.seq ?_
          refine AWp.seq ?_
          refine AWp.region ?_
          obtain ⟨r99, e98, hsK117⟩ := bindS hsK117
          refine AOps.cc hT hA { tk := [57] } (by (repeat (cbv; simp only [c95])); first | done | cbv) (lb rfl) (R68bw hA e98) rfl (.inl rfl) rfl rfl rfl (lb rfl) rfl rfl ?_
          refine AOps.cd hT hA { tk := [57] } (by (repeat (cbv; simp only [c95])); first | done | cbv) (lb rfl) ?_
          refine nT ?_
          refine AWp.block ?_
          obtain ⟨xK109, hxK109, K109, hK109, hkK109⟩ := bindK hsK117
          refine AWp.cutX 4 [1, 4, 7, 8, 45, 46] [] 2 (lb rfl) (fun τ => ∃ v108, K109 v108 = some eK117 ∧ τ = { env := [(1, (.lbox [(.d (.int .i64 x1)), (.d (.list 3 x2))])), (4, (.ptr 1 0)), (7, (.d (.int .i64 v93))), (8, (.d (.int .u8 v108))), (45, (.d (.int .i64 x1))), (46, (.d (.int .i64 v93)))], heap := [(.arr 1 x3), (.arr 1 v94)], n := 111 }) ?_ ?_
          · skip
            refine AWp.iter hxK109 [1, 4, 7, 8, 9, 45, 46] [] 2 (lb rfl) (fun (v103, v104) => { env := [(1, (.lbox [(.d (.int .i64 x1)), (.d (.list 3 x2))])), (4, (.ptr 1 0)), (7, (.d (.int .i64 v93))), (8, (.d (.int .u8 v103))), (9, (.d (.int .u8 v104))), (45, (.d (.int .i64 x1))), (46, (.d (.int .i64 v93)))], heap := [(.arr 1 x3), (.arr 1 v94)], n := 111 }) ⟨rfl, (by first | (cbv; done) | ((repeat (cbv; simp only [c95])); first | done | cbv))⟩ ?_
            rintro ⟨v103, v104⟩ eK109 hsK109
            dsimp only [R58aL1] at hsK109
            refine AWp.seq ?_
            refine AWp.seq ?_
            refine AWp.rg hT hA {} (by cbv) (lb rfl) ?_
            refine nT ?_
            rcases tf (A.zeq v104 v103) with c105 | c105
            · replace hsK109 := cT c105 hsK109
              refine AWp.cdF rfl (by first | rfl | simp only [c105, Bool.not_true, Bool.not_false, cond_true, cond_false]) ?_
              refine AWp.exit ?_
              refine xT ?_
              refine xT ?_
              refine exL hsK109 fun hx => ?_
              subst hx
              exact oxI ⟨rfl, _, hkK109, (by first | (cbv; done) | ((repeat (cbv; simp only [c105])); first | done | cbv))⟩
            · replace hsK109 := cF c105 hsK109
              refine AWp.cdT rfl (by first | rfl | simp only [c105, Bool.not_true, Bool.not_false, cond_true, cond_false]) ?_
              refine AWp.skip ?_
              refine nT ?_
              refine AWp.seq ?_
              refine AWp.block ?_
              refine AWp.rg hT hA { tk := [9, 68] } (by (repeat (cbv; simp only [c105])); first | done | cbv) (lb rfl) ?_
              refine nB ?_
              refine nT ?_
              refine AWp.region ?_
              obtain ⟨r107, e106, hsK109⟩ := bindS hsK109
              refine AOps.cc hT hA { tk := [67] } (by (repeat (cbv; simp only [c105])); first | done | cbv) (lb rfl) (R68bw hA e106) rfl (.inl rfl) rfl rfl rfl (lb rfl) rfl rfl ?_
              refine AOps.cd hT hA { tk := [67] } (by (repeat (cbv; simp only [c105])); first | done | cbv) (lb rfl) ?_
              exact nT ⟨_, (soI hsK109).symm, rfl, (by first | (cbv; done) | ((repeat (cbv; simp only [c105])); first | done | cbv))⟩
          · rintro _ ⟨v108, hkK109, rfl⟩
            have hsK117 := (hK109 _ hkK109)
            refine xB ?_
            refine nT ?_
            obtain ⟨_, e110, hsK117⟩ := bindS hsK117
            have f112 := ckI e110
            obtain ⟨_, e111, hsK117⟩ := bindS hsK117
            have f113 := ckI e111
            obtain ⟨d114, e115, hsK117⟩ := bindS hsK117
            refine AWp.rg hT hA { tk := [8, 71] } (by (repeat (cbv; simp only [f112, f113, e115])); first | done | cbv) (lb rfl) ?_
            refine nB ?_
            refine nT ?_
            refine AWp.rg hT hA {} (by cbv) (lb rfl) ?_
            exact nT ⟨_, (soI hsK117).symm, rfl, (by cbv)⟩
        · replace hsK117 := cF c95 hsK117
          refine AWp.cdF rfl (by first | rfl | simp only [c95, Bool.not_true, Bool.not_false, cond_true, cond_false]) ?_
          refine AWp.exit ?_
          refine xT ?_
          refine xT ?_
          refine exL hsK117 fun hx => ?_
          subst hx
          exact oxI ⟨rfl, _, hkK117, (by first | (cbv; done) | ((repeat (cbv; simp only [c95])); first | done | cbv))⟩
      · rintro _ ⟨v116, hkK117, rfl⟩
        have h := (hK117 _ hkK117)
        refine xB ?_
        refine nT ?_
        refine AWp.seq ?_
        refine AWp.seq ?_
        refine AWp.rg hT hA {} (by cbv) (lb rfl) ?_
        refine nT ?_
        refine AWp.block ?_
        obtain ⟨xK219, hxK219, K219, hK219, hkK219⟩ := bindK h
        refine AWp.cutX 6 [4] [] 2 (lb rfl) (fun τ => ∃ v218, K219 v218 = some (.inr ()) ∧ τ = { env := [(4, (.ptr 1 0))], heap := [(.arr 1 x3), (.arr 1 v218)], n := 111 }) ?_ ?_
        · skip
          refine AWp.iter hxK219 [1, 4, 10] [] 2 (lb rfl) (fun (v167, v168) => { env := [(1, (.lbox [(.d (.int .i64 x1)), (.d (.list 3 x2))])), (4, (.ptr 1 0)), (10, (.d (.int .i64 v167)))], heap := [(.arr 1 x3), (.arr 1 v168)], n := 111 }) ⟨rfl, (by cbv)⟩ ?_
          rintro ⟨v167, v168⟩ eK219 hsK219
          dsimp only [R58aL4] at hsK219
          refine AWp.seq ?_
          refine AWp.seq ?_
          refine AWp.rg hT hA {} (by cbv) (lb rfl) ?_
          refine nT ?_
          rcases tf (A.zle v167 3) with c169 | c169
          · replace hsK219 := cT c169 hsK219
            refine AWp.cdT rfl (by first | rfl | simp only [c169, Bool.not_true, Bool.not_false, cond_true, cond_false]) ?_
            refine AWp.skip ?_
            refine nT ?_
            refine AWp.seq ?_
            refine AWp.block ?_
            refine AWp.seq ?_
            refine AWp.rg hT hA {} (by (repeat (cbv; simp only [c169])); first | done | cbv) (lb rfl) ?_
            refine nT ?_
            refine AWp.block ?_
            obtain ⟨xK217, hxK217, K217, hK217, hkK217⟩ := bindK hsK219
            refine AWp.cutX 8 [1, 4, 10] [] 2 (lb rfl) (fun τ => ∃ v216, K217 v216 = some eK219 ∧ τ = { env := [(1, (.lbox [(.d (.int .i64 x1)), (.d (.list 3 x2))])), (4, (.ptr 1 0)), (10, (.d (.int .i64 v167)))], heap := [(.arr 1 x3), (.arr 1 v216)], n := 111 }) ?_ ?_
            · skip
              refine AWp.iter hxK217 [1, 4, 10, 82, 83] [] 2 (lb rfl) (fun (v192, v193) => { env := [(1, (.lbox [(.d (.int .i64 x1)), (.d (.list 3 x2))])), (4, (.ptr 1 0)), (10, (.d (.int .i64 v167))), (82, (.d (.int .i64 x1))), (83, (.d (.int .i64 v192)))], heap := [(.arr 1 x3), (.arr 1 v193)], n := 111 }) ⟨rfl, (by first | (cbv; done) | ((repeat (cbv; simp only [c169])); first | done | cbv))⟩ ?_
              rintro ⟨v192, v193⟩ eK217 hsK217
              dsimp only [R58aL3] at hsK217
              refine AWp.seq ?_
              refine AWp.rg hT hA {} (by cbv) (lb rfl) ?_
              refine nT ?_
              refine AWp.seq ?_
              rcases tf (A.zlt v192 x1) with c194 | c194
              · replace hsK217 := cT c194 hsK217
                refine AWp.cdT rfl (by first | rfl | simp only [c194, Bool.not_true, Bool.not_false, cond_true, cond_false]) ?_
                refine AWp.skip ?_
                refine nT ?_
                refine AWp.seq ?_
                refine AWp.block ?_
                refine AWp.seq ?_
                refine AWp.rg hT hA {} (by (repeat (cbv; simp only [c194])); first | done | cbv) (lb rfl) ?_
                refine nT ?_
                refine AWp.regionDraw rfl (lb rfl) ?_
                obtain ⟨_, e195, hsK217⟩ := bindS hsK217
                have f197 := ckI e195
                obtain ⟨_, e196, hsK217⟩ := bindS hsK217
                have f198 := ckI e196
                obtain ⟨a199, e200, hsK217⟩ := bindS hsK217
                have f201 := gcI e200
                obtain ⟨r203, e202, hsK217⟩ := bindS hsK217
                refine DOps.cp hT hA { tk := [104] } rfl (by (repeat (cbv; simp only [c194, f197, f198, f201])); first | done | cbv) (R68bw hA e202) rfl rfl rfl rfl (lb rfl) rfl rfl ?_
                obtain ⟨r205, e204, hsK217⟩ := bindS hsK217
                refine DOps.cp hT hA { tk := [104] } rfl (by (repeat (cbv; simp only [c194, f197, f198, f201])); first | done | cbv) (R68cw hA e204) rfl rfl rfl rfl (lb rfl) rfl rfl ?_
                obtain ⟨_, e206, hsK217⟩ := bindS hsK217
                have f208 := ckI e206
                obtain ⟨_, e207, hsK217⟩ := bindS hsK217
                have f209 := ckI e207
                obtain ⟨_, e210, hsK217⟩ := bindS hsK217
                have f212 := ckI e210
                obtain ⟨_, e211, hsK217⟩ := bindS hsK217
                have f213 := ckI e211
                obtain ⟨d214, e215, hsK217⟩ := bindS hsK217
                refine DOps.cd hT hA { tk := [104] } rfl (by (repeat (cbv; simp only [c194, f197, f198, f201, f208, f209, f212, f213, e215])); first | done | cbv) (by kernel_rfl) ?_
                refine nB ?_
                refine nT ?_
                refine AWp.rg hT hA {} (by (repeat (cbv; simp only [c194])); first | done | cbv) (lb rfl) ?_
                exact nT ⟨_, (soI hsK217).symm, rfl, (by first | (cbv; done) | ((repeat (cbv; simp only [c194])); first | done | cbv))⟩
              · replace hsK217 := cF c194 hsK217
                refine AWp.cdF rfl (by first | rfl | simp only [c194, Bool.not_true, Bool.not_false, cond_true, cond_false]) ?_
                refine AWp.exit ?_
                refine xT ?_
                refine xT ?_
                refine exL hsK217 fun hx => ?_
                subst hx
                exact oxI ⟨rfl, _, hkK217, (by first | (cbv; done) | ((repeat (cbv; simp only [c194])); first | done | cbv))⟩
            · rintro _ ⟨v216, hkK217, rfl⟩
              have hsK219 := (hK217 _ hkK217)
              refine xB ?_
              refine nB ?_
              refine nT ?_
              refine AWp.rg hT hA {} (by cbv) (lb rfl) ?_
              exact nT ⟨_, (soI hsK219).symm, rfl, (by cbv)⟩
          · replace hsK219 := cF c169 hsK219
            refine AWp.cdF rfl (by first | rfl | simp only [c169, Bool.not_true, Bool.not_false, cond_true, cond_false]) ?_
            refine AWp.exit ?_
            refine xT ?_
            refine xT ?_
            refine exL hsK219 fun hx => ?_
            subst hx
            exact oxI ⟨rfl, _, hkK219, (by first | (cbv; done) | ((repeat (cbv; simp only [c169])); first | done | cbv))⟩
        · rintro _ ⟨v218, hkK219, rfl⟩
          have h := (hK219 _ hkK219)
          refine xB ?_
          refine nT ?_
          refine AWp.seq ?_
          refine AWp.rg hT hA {} (by cbv) (lb rfl) ?_
          refine nT ?_
          refine AWp.ret ?_
          cases soI h
  · replace h := cF c6 h
    refine AWp.cdT rfl (by first | rfl | simp only [c6, Bool.not_true, Bool.not_false, cond_true, cond_false]) ?_
    refine AWp.seq ?_
    refine AWp.rg hT hA {} (by (repeat (cbv; simp only [c6])); first | done | cbv) (lb rfl) ?_
    refine nT ?_
    refine AWp.ret ?_
    refine rT ?_
    cases soI h
    exact ⟨rfl, rfl, rfl, lb rfl, _, rfl⟩

theorem R70wa {A : Ar} (hA : A = Ar.std) {x1 : Int} {x2 : List D} {x3 : Int} {x4 : List D} {v14 : List D} {v15 : List D} (h : R70 A x1 x2 x3 x4 = some (.inl (v14, v15))) : ACall Try.prog 70 [(.d (.agg [(.int .i64 x1), (.list 3 x2)])), (.d (.agg [(.int .i64 x3), (.list 3 x4)]))] [] (.tuple [(.ptr 0 0), (.ptr 1 0), (.d (.int .i64 0))]) [(.arr 1 v14), (.arr 1 v15)] := by
  unfold R70 at h
  refine ACall.enter hT (fn := Try.f70) Try.func70 rfl (by decide) (by simp [Try.f70]) rfl rfl rfl rfl (lb rfl) ?_
  refine AWp.seq ?_
  refine AWp.rg hT hA {} (by cbv) (lb rfl) ?_
  refine nT ?_
  refine AWp.seq ?_
  refine AWp.region ?_
  obtain ⟨q7, e5, h⟩ := bindS h
  rcases q7 with r6 | _
  · replace h := (eL h)
    refine AOps.cc hT hA {} (by cbv) (lb rfl) (R58wa hA e5) rfl (.inl rfl) rfl rfl rfl (lb rfl) rfl rfl ?_
    refine AOps.cd hT hA {} (by cbv) (lb rfl) ?_
    refine nT ?_
    refine AWp.seq ?_
    refine AWp.seq ?_
    have f8 := zeqF hA (a := 0) (b := 0) (c := true) rfl
    refine AWp.rg hT hA {} (by (repeat (cbv; simp only [f8])); first | done | cbv) (lb rfl) ?_
    refine nT ?_
    refine AWp.cdF rfl (by first | rfl | simp only [f8, Bool.not_true, Bool.not_false, cond_true, cond_false]) ?_
    refine AWp.skip ?_
    refine nT ?_
    refine AWp.seq ?_
    refine AWp.region ?_
    obtain ⟨q11, e9, h⟩ := bindS h
    rcases q11 with r10 | _
    · replace h := (eL h)
      refine AOps.cc hT hA {} (by (repeat (cbv; simp only [f8])); first | done | cbv) (lb rfl) (R58awa hA e9) rfl (.inl rfl) rfl rfl rfl (lb rfl) rfl rfl ?_
      refine AOps.cd hT hA {} (by (repeat (cbv; simp only [f8])); first | done | cbv) (lb rfl) ?_
      refine nT ?_
      refine AWp.seq ?_
      refine AWp.rg hT hA {} (by (repeat (cbv; simp only [f8])); first | done | cbv) (lb rfl) ?_
      refine nT ?_
      refine AWp.ret ?_
      cases soI h
      exact ⟨rfl, rfl, rfl, lb rfl, _, rfl⟩
    · replace h := (eR h)
      refine AOps.cc hT hA {} (by (repeat (cbv; simp only [f8])); first | done | cbv) (lb rfl) (R58awb hA e9) rfl (.inl rfl) rfl rfl rfl (lb rfl) rfl rfl ?_
      refine AOps.cd hT hA {} (by (repeat (cbv; simp only [f8])); first | done | cbv) (lb rfl) ?_
      refine nT ?_
      refine AWp.seq ?_
      refine AWp.rg hT hA {} (by (repeat (cbv; simp only [f8])); first | done | cbv) (lb rfl) ?_
      refine nT ?_
      refine AWp.ret ?_
      cases soI h
  · replace h := (eR h)
    refine AOps.cc hT hA {} (by cbv) (lb rfl) (R58wb hA e5) rfl (.inl rfl) rfl rfl rfl (lb rfl) rfl rfl ?_
    refine AOps.cd hT hA {} (by cbv) (lb rfl) ?_
    refine nT ?_
    refine AWp.seq ?_
    refine AWp.seq ?_
    have f13 := zeqF hA (a := 50) (b := 0) (c := false) rfl
    refine AWp.rg hT hA {} (by (repeat (cbv; simp only [f13])); first | done | cbv) (lb rfl) ?_
    refine nT ?_
    refine AWp.cdT rfl (by first | rfl | simp only [f13, Bool.not_true, Bool.not_false, cond_true, cond_false]) ?_
    refine AWp.seq ?_
    refine AWp.rg hT hA {} (by (repeat (cbv; simp only [f13])); first | done | cbv) (lb rfl) ?_
    refine nT ?_
    refine AWp.ret ?_
    refine rT ?_
    cases soI h

theorem R70wb {A : Ar} (hA : A = Ar.std) {x1 : Int} {x2 : List D} {x3 : Int} {x4 : List D} {v16 : List D} (h : R70 A x1 x2 x3 x4 = some (.inr (.inl v16))) : ACall Try.prog 70 [(.d (.agg [(.int .i64 x1), (.list 3 x2)])), (.d (.agg [(.int .i64 x3), (.list 3 x4)]))] [] (.tuple [(.ptr 0 0), .nilptr, (.d (.int .i64 50))]) [(.arr 1 v16)] := by
  unfold R70 at h
  refine ACall.enter hT (fn := Try.f70) Try.func70 rfl (by decide) (by simp [Try.f70]) rfl rfl rfl rfl (lb rfl) ?_
  refine AWp.seq ?_
  refine AWp.rg hT hA {} (by cbv) (lb rfl) ?_
  refine nT ?_
  refine AWp.seq ?_
  refine AWp.region ?_
  obtain ⟨q7, e5, h⟩ := bindS h
  rcases q7 with r6 | _
  · replace h := (eL h)
    refine AOps.cc hT hA {} (by cbv) (lb rfl) (R58wa hA e5) rfl (.inl rfl) rfl rfl rfl (lb rfl) rfl rfl ?_
    refine AOps.cd hT hA {} (by cbv) (lb rfl) ?_
    refine nT ?_
    refine AWp.seq ?_
    refine AWp.seq ?_
    have f8 := zeqF hA (a := 0) (b := 0) (c := true) rfl
    refine AWp.rg hT hA {} (by (repeat (cbv; simp only [f8])); first | done | cbv) (lb rfl) ?_
    refine nT ?_
    refine AWp.cdF rfl (by first | rfl | simp only [f8, Bool.not_true, Bool.not_false, cond_true, cond_false]) ?_
    refine AWp.skip ?_
    refine nT ?_
    refine AWp.seq ?_
    refine AWp.region ?_
    obtain ⟨q11, e9, h⟩ := bindS h
    rcases q11 with r10 | _
    · replace h := (eL h)
      refine AOps.cc hT hA {} (by (repeat (cbv; simp only [f8])); first | done | cbv) (lb rfl) (R58awa hA e9) rfl (.inl rfl) rfl rfl rfl (lb rfl) rfl rfl ?_
      refine AOps.cd hT hA {} (by (repeat (cbv; simp only [f8])); first | done | cbv) (lb rfl) ?_
      refine nT ?_
      refine AWp.seq ?_
      refine AWp.rg hT hA {} (by (repeat (cbv; simp only [f8])); first | done | cbv) (lb rfl) ?_
      refine nT ?_
      refine AWp.ret ?_
      cases soI h
    · replace h := (eR h)
      refine AOps.cc hT hA {} (by (repeat (cbv; simp only [f8])); first | done | cbv) (lb rfl) (R58awb hA e9) rfl (.inl rfl) rfl rfl rfl (lb rfl) rfl rfl ?_
      refine AOps.cd hT hA {} (by (repeat (cbv; simp only [f8])); first | done | cbv) (lb rfl) ?_
      refine nT ?_
      refine AWp.seq ?_
      refine AWp.rg hT hA {} (by (repeat (cbv; simp only [f8])); first | done | cbv) (lb rfl) ?_
      refine nT ?_
      refine AWp.ret ?_
      cases soI h
      exact ⟨rfl, rfl, rfl, lb rfl, _, rfl⟩
  · replace h := (eR h)
    refine AOps.cc hT hA {} (by cbv) (lb rfl) (R58wb hA e5) rfl (.inl rfl) rfl rfl rfl (lb rfl) rfl rfl ?_
    refine AOps.cd hT hA {} (by cbv) (lb rfl) ?_
    refine nT ?_
    refine AWp.seq ?_
    refine AWp.seq ?_
    have f13 := zeqF hA (a := 50) (b := 0) (c := false) rfl
    refine AWp.rg hT hA {} (by (repeat (cbv; simp only [f13])); first | done | cbv) (lb rfl) ?_
    refine nT ?_
    refine AWp.cdT rfl (by first | rfl | simp only [f13, Bool.not_true, Bool.not_false, cond_true, cond_false]) ?_
    refine AWp.seq ?_
    refine AWp.rg hT hA {} (by (repeat (cbv; simp only [f13])); first | done | cbv) (lb rfl) ?_
    refine nT ?_
    refine AWp.ret ?_
    refine rT ?_
    cases soI h

theorem R70wc {A : Ar} (hA : A = Ar.std) {x1 : Int} {x2 : List D} {x3 : Int} {x4 : List D} (h : R70 A x1 x2 x3 x4 = some (.inr (.inr ()))) : ACall Try.prog 70 [(.d (.agg [(.int .i64 x1), (.list 3 x2)])), (.d (.agg [(.int .i64 x3), (.list 3 x4)]))] [] (.tuple [.nilptr, .nilptr, (.d (.int .i64 50))]) [] := by
  unfold R70 at h
  refine ACall.enter hT (fn := Try.f70) Try.func70 rfl (by decide) (by simp [Try.f70]) rfl rfl rfl rfl (lb rfl) ?_
  refine AWp.seq ?_
  refine AWp.rg hT hA {} (by cbv) (lb rfl) ?_
  refine nT ?_
  refine AWp.seq ?_
  refine AWp.region ?_
  obtain ⟨q7, e5, h⟩ := bindS h
  rcases q7 with r6 | _
  · replace h := (eL h)
    refine AOps.cc hT hA {} (by cbv) (lb rfl) (R58wa hA e5) rfl (.inl rfl) rfl rfl rfl (lb rfl) rfl rfl ?_
    refine AOps.cd hT hA {} (by cbv) (lb rfl) ?_
    refine nT ?_
    refine AWp.seq ?_
    refine AWp.seq ?_
    have f8 := zeqF hA (a := 0) (b := 0) (c := true) rfl
    refine AWp.rg hT hA {} (by (repeat (cbv; simp only [f8])); first | done | cbv) (lb rfl) ?_
    refine nT ?_
    refine AWp.cdF rfl (by first | rfl | simp only [f8, Bool.not_true, Bool.not_false, cond_true, cond_false]) ?_
    refine AWp.skip ?_
    refine nT ?_
    refine AWp.seq ?_
    refine AWp.region ?_
    obtain ⟨q11, e9, h⟩ := bindS h
    rcases q11 with r10 | _
    · replace h := (eL h)
      refine AOps.cc hT hA {} (by (repeat (cbv; simp only [f8])); first | done | cbv) (lb rfl) (R58awa hA e9) rfl (.inl rfl) rfl rfl rfl (lb rfl) rfl rfl ?_
      refine AOps.cd hT hA {} (by (repeat (cbv; simp only [f8])); first | done | cbv) (lb rfl) ?_
      refine nT ?_
      refine AWp.seq ?_
      refine AWp.rg hT hA {} (by (repeat (cbv; simp only [f8])); first | done | cbv) (lb rfl) ?_
      refine nT ?_
      refine AWp.ret ?_
      cases soI h
    · replace h := (eR h)
      refine AOps.cc hT hA {} (by (repeat (cbv; simp only [f8])); first | done | cbv) (lb rfl) (R58awb hA e9) rfl (.inl rfl) rfl rfl rfl (lb rfl) rfl rfl ?_
      refine AOps.cd hT hA {} (by (repeat (cbv; simp only [f8])); first | done | cbv) (lb rfl) ?_
      refine nT ?_
      refine AWp.seq ?_
      refine AWp.rg hT hA {} (by (repeat (cbv; simp only [f8])); first | done | cbv) (lb rfl) ?_
      refine nT ?_
      refine AWp.ret ?_
      cases soI h
  · replace h := (eR h)
    refine AOps.cc hT hA {} (by cbv) (lb rfl) (R58wb hA e5) rfl (.inl rfl) rfl rfl rfl (lb rfl) rfl rfl ?_
    refine AOps.cd hT hA {} (by cbv) (lb rfl) ?_
    refine nT ?_
    refine AWp.seq ?_
    refine AWp.seq ?_
    have f13 := zeqF hA (a := 50) (b := 0) (c := false) rfl
    refine AWp.rg hT hA {} (by (repeat (cbv; simp only [f13])); first | done | cbv) (lb rfl) ?_
    refine nT ?_
    refine AWp.cdT rfl (by first | rfl | simp only [f13, Bool.not_true, Bool.not_false, cond_true, cond_false]) ?_
    refine AWp.seq ?_
    refine AWp.rg hT hA {} (by (repeat (cbv; simp only [f13])); first | done | cbv) (lb rfl) ?_
    refine nT ?_
    refine AWp.ret ?_
    refine rT ?_
    cases soI h
    exact ⟨rfl, rfl, rfl, lb rfl, _, rfl⟩

theorem R62w {A : Ar} (hA : A = Ar.std) {x1 : List D} {x2 : List D} {v24 : Int} (h : R62 A x1 x2 = some v24) : ACall Try.prog 62 [(.ptr 0 0), (.d (.list 1 x1))] [(.arr 1 x2)] (.d (.int .u8 v24)) [(.arr 1 x2)] := by
  unfold R62 at h
  refine ACall.enter hT (fn := Try.f62) Try.func62 rfl (by decide) (by simp [Try.f62]) rfl rfl rfl rfl (lb rfl) ?_
  refine AWp.seq ?_
  refine AWp.rg hT hA {} (by cbv) (lb rfl) ?_
  refine nT ?_
  refine AWp.seq ?_
  obtain ⟨a3, e4, h⟩ := bindS h
  have f5 := gcI e4
  refine AWp.rg hT hA { tk := [13] } (by (repeat (cbv; simp only [f5])); first | done | cbv) (lb rfl) ?_
  refine nT ?_
  refine AWp.seq ?_
  refine AWp.seq ?_
  refine AWp.rg hT hA {} (by cbv) (lb rfl) ?_
  refine nT ?_
  refine AWp.block ?_
  obtain ⟨xK23, hxK23, K23, hK23, hkK23⟩ := bindK h
  refine AWp.cutX 0 [5] [] 1 (lb rfl) (fun τ => ∃ v22, K23 v22 = some v24 ∧ τ = { env := [(5, (.d (.int .u8 v22)))], heap := [(.arr 1 x2)], n := 28 }) ?_ ?_
  · skip
    refine AWp.iter hxK23 [0, 5, 14, 15, 16] [] 1 (lb rfl) (fun (v13, v14) => { env := [(0, (.ptr 0 0)), (5, (.d (.int .u8 v13))), (14, (.d (.list 1 x1))), (15, (.d (.int .i64 (A.len x1)))), (16, (.d (.int .i64 v14)))], heap := [(.arr 1 x2)], n := 28 }) ⟨rfl, (by cbv)⟩ ?_
    rintro ⟨v13, v14⟩ eK23 hsK23
    dsimp only [R62L0] at hsK23
    refine AWp.seq ?_
    refine AWp.rg hT hA {} (by cbv) (lb rfl) ?_
    refine nT ?_
    refine AWp.seq ?_
    rcases tf (A.zlt v14 (A.len x1)) with c15 | c15
    · replace hsK23 := cT c15 hsK23
      refine AWp.cdT rfl (by first | rfl | simp only [c15, Bool.not_true, Bool.not_false, cond_true, cond_false]) ?_
      refine AWp.skip ?_
      refine nT ?_
      refine AWp.seq ?_
      refine AWp.block ?_
      refine AWp.seq ?_
      obtain ⟨a16, e17, hsK23⟩ := bindS hsK23
      obtain ⟨f18, f19⟩ := gtI e17
      refine AWp.rg hT hA {} (by (repeat (cbv; simp only [c15, f18, f19])); first | done | cbv) (lb rfl) ?_
      refine nT ?_
      refine AWp.region ?_
      obtain ⟨r21, e20, hsK23⟩ := bindS hsK23
      refine AOps.cc hT hA { tk := [25] } (by (repeat (cbv; simp only [c15])); first | done | cbv) (lb rfl) (R68aw hA e20) rfl (.inl rfl) rfl rfl rfl (lb rfl) rfl rfl ?_
      refine AOps.cd hT hA { tk := [25] } (by (repeat (cbv; simp only [c15])); first | done | cbv) (lb rfl) ?_
      refine nB ?_
      refine nT ?_
      refine AWp.rg hT hA {} (by (repeat (cbv; simp only [c15])); first | done | cbv) (lb rfl) ?_
      exact nT ⟨_, (soI hsK23).symm, rfl, (by first | (cbv; done) | ((repeat (cbv; simp only [c15])); first | done | cbv))⟩
    · replace hsK23 := cF c15 hsK23
      refine AWp.cdF rfl (by first | rfl | simp only [c15, Bool.not_true, Bool.not_false, cond_true, cond_false]) ?_
      refine AWp.exit ?_
      refine xT ?_
      refine xT ?_
      refine exL hsK23 fun hx => ?_
      subst hx
      exact oxI ⟨rfl, _, hkK23, (by first | (cbv; done) | ((repeat (cbv; simp only [c15])); first | done | cbv))⟩
  · rintro _ ⟨v22, hkK23, rfl⟩
    have h := (hK23 _ hkK23)
    refine xB ?_
    refine nT ?_
    refine AWp.seq ?_
    refine AWp.rg hT hA { tk := [5, 27] } (by cbv) (lb rfl) ?_
    refine nT ?_
    refine AWp.ret ?_
    cases soI h
    exact ⟨rfl, rfl, rfl, lb rfl, _, rfl⟩

theorem R62aw {A : Ar} (hA : A = Ar.std) {x1 : List D} {x2 : List D} {x3 : List D} {v25 : Int} (h : R62a A x1 x2 x3 = some v25) : ACall Try.prog 62 [(.ptr 1 0), (.d (.list 1 x1))] [(.arr 1 x2), (.arr 1 x3)] (.d (.int .u8 v25)) [(.arr 1 x2), (.arr 1 x3)] := by
  unfold R62a at h
  refine ACall.enter hT (fn := Try.f62) Try.func62 rfl (by decide) (by simp [Try.f62]) rfl rfl rfl rfl (lb rfl) ?_
  refine AWp.seq ?_
  refine AWp.rg hT hA {} (by cbv) (lb rfl) ?_
  refine nT ?_
  refine AWp.seq ?_
  obtain ⟨a4, e5, h⟩ := bindS h
  have f6 := gcI e5
  refine AWp.rg hT hA { tk := [13] } (by (repeat (cbv; simp only [f6])); first | done | cbv) (lb rfl) ?_
  refine nT ?_
  refine AWp.seq ?_
  refine AWp.seq ?_
  refine AWp.rg hT hA {} (by cbv) (lb rfl) ?_
  refine nT ?_
  refine AWp.block ?_
  obtain ⟨xK24, hxK24, K24, hK24, hkK24⟩ := bindK h
  refine AWp.cutX 0 [5] [] 2 (lb rfl) (fun τ => ∃ v23, K24 v23 = some v25 ∧ τ = { env := [(5, (.d (.int .u8 v23)))], heap := [(.arr 1 x2), (.arr 1 x3)], n := 28 }) ?_ ?_
  · skip
    refine AWp.iter hxK24 [0, 5, 14, 15, 16] [] 2 (lb rfl) (fun (v14, v15) => { env := [(0, (.ptr 1 0)), (5, (.d (.int .u8 v14))), (14, (.d (.list 1 x1))), (15, (.d (.int .i64 (A.len x1)))), (16, (.d (.int .i64 v15)))], heap := [(.arr 1 x2), (.arr 1 x3)], n := 28 }) ⟨rfl, (by cbv)⟩ ?_
    rintro ⟨v14, v15⟩ eK24 hsK24
    dsimp only [R62aL0] at hsK24
    refine AWp.seq ?_
    refine AWp.rg hT hA {} (by cbv) (lb rfl) ?_
    refine nT ?_
    refine AWp.seq ?_
    rcases tf (A.zlt v15 (A.len x1)) with c16 | c16
    · replace hsK24 := cT c16 hsK24
      refine AWp.cdT rfl (by first | rfl | simp only [c16, Bool.not_true, Bool.not_false, cond_true, cond_false]) ?_
      refine AWp.skip ?_
      refine nT ?_
      refine AWp.seq ?_
      refine AWp.block ?_
      refine AWp.seq ?_
      obtain ⟨a17, e18, hsK24⟩ := bindS hsK24
      obtain ⟨f19, f20⟩ := gtI e18
      refine AWp.rg hT hA {} (by (repeat (cbv; simp only [c16, f19, f20])); first | done | cbv) (lb rfl) ?_
      refine nT ?_
      refine AWp.region ?_
      obtain ⟨r22, e21, hsK24⟩ := bindS hsK24
      refine AOps.cc hT hA { tk := [25] } (by (repeat (cbv; simp only [c16])); first | done | cbv) (lb rfl) (R68cw hA e21) rfl (.inl rfl) rfl rfl rfl (lb rfl) rfl rfl ?_
      refine AOps.cd hT hA { tk := [25] } (by (repeat (cbv; simp only [c16])); first | done | cbv) (lb rfl) ?_
      refine nB ?_
      refine nT ?_
      refine AWp.rg hT hA {} (by (repeat (cbv; simp only [c16])); first | done | cbv) (lb rfl) ?_
      exact nT ⟨_, (soI hsK24).symm, rfl, (by first | (cbv; done) | ((repeat (cbv; simp only [c16])); first | done | cbv))⟩
    · replace hsK24 := cF c16 hsK24
      refine AWp.cdF rfl (by first | rfl | simp only [c16, Bool.not_true, Bool.not_false, cond_true, cond_false]) ?_
      refine AWp.exit ?_
      refine xT ?_
      refine xT ?_
      refine exL hsK24 fun hx => ?_
      subst hx
      exact oxI ⟨rfl, _, hkK24, (by first | (cbv; done) | ((repeat (cbv; simp only [c16])); first | done | cbv))⟩
  · rintro _ ⟨v23, hkK24, rfl⟩
    have h := (hK24 _ hkK24)
    refine xB ?_
    refine nT ?_
    refine AWp.seq ?_
    refine AWp.rg hT hA { tk := [5, 27] } (by cbv) (lb rfl) ?_
    refine nT ?_
    refine AWp.ret ?_
    cases soI h
    exact ⟨rfl, rfl, rfl, lb rfl, _, rfl⟩

theorem R67w {A : Ar} (hA : A = Ar.std) {x1 : List D} {v12 : List D} (h : R67 A x1 = some v12) : ACall Try.prog 67 [(.d (.list 1 x1))] [] (.own 1 v12) [] := by
  unfold R67 at h
  refine ACall.enter hT (fn := Try.f67) Try.func67 rfl (by decide) (by simp [Try.f67]) rfl rfl rfl rfl (lb rfl) ?_
  refine AWp.seq ?_
  refine AWp.rg hT hA {} (by cbv) (lb rfl) ?_
  refine nT ?_
  refine AWp.seq ?_
  refine AWp.seq ?_
  rcases tf (A.zlt 0 (A.len x1)) with c2 | c2
  · replace h := cT c2 h
    refine AWp.rg hT hA {} (by (repeat (cbv; simp only [c2])); first | done | cbv) (lb rfl) ?_
    refine nT ?_
    refine AWp.cond (b := false) (by cbv; simp only [c2]) ?_
    rw [if_neg Bool.false_ne_true]
    refine AWp.skip ?_
    refine nT ?_
    refine AWp.seq ?_
    obtain ⟨l4, e5, h⟩ := bindS h
    obtain ⟨f6, f7⟩ := apI e5
    refine AWp.rg hT hA { tk := [7] } (by (repeat (cbv; simp only [c2, f6, f7])); first | done | cbv) (lb rfl) ?_
    refine nT ?_
    refine AWp.ret ?_
    cases soI h
    exact ⟨rfl, rfl, rfl, lb rfl, _, rfl⟩
  · replace h := cF c2 h
    refine AWp.rg hT hA {} (by (repeat (cbv; simp only [c2])); first | done | cbv) (lb rfl) ?_
    refine nT ?_
    obtain ⟨hc3a, hc3b⟩ := bothI h
    refine AWp.condAny (by cbv; simp only [c2]) ?_ ?_
    · replace h := hc3a
      refine AWp.seq ?_
      refine AWp.rg hT hA {} (by (repeat (cbv; simp only [c2])); first | done | cbv) (lb rfl) ?_
      refine nT ?_
      refine AWp.ret ?_
      refine rT ?_
      cases soI h
      exact ⟨rfl, rfl, rfl, lb rfl, _, rfl⟩
    · replace h := hc3b
      refine AWp.skip ?_
      refine nT ?_
      refine AWp.seq ?_
      obtain ⟨l8, e9, h⟩ := bindS h
      obtain ⟨f10, f11⟩ := apI e9
      refine AWp.rg hT hA { tk := [7] } (by (repeat (cbv; simp only [c2, f10, f11])); first | done | cbv) (lb rfl) ?_
      refine nT ?_
      refine AWp.ret ?_
      cases soI h
      exact ⟨rfl, rfl, rfl, lb rfl, _, rfl⟩

theorem R23w {A : Ar} (hA : A = Ar.std) {x1 : Int} {x2 : List D} {x3 : Int} {x4 : List D} {v237 : List D} {v238 : Int} (h : R23 A x1 x2 x3 x4 = some (v237, v238)) : ACall Try.prog 23 [(.d (.agg [(.int .i64 x1), (.list 3 x2)])), (.d (.agg [(.int .i64 x3), (.list 3 x4)]))] [] (.tuple [(.d (.list 1 v237)), (.d (.int .i64 v238))]) [] := by
  unfold R23 at h
  refine ACall.enter hT (fn := Try.f23) Try.func23 rfl (by decide) (by simp [Try.f23]) rfl rfl rfl rfl (lb rfl) ?_
  refine AWp.seq ?_
  refine AWp.rg hT hA {} (by cbv) (lb rfl) ?_
  refine nT ?_
  refine AWp.seq ?_
  refine AWp.region ?_
  obtain ⟨q9, e5, h⟩ := bindS h
  rcases q9 with ⟨r6, r7⟩ | r8 | _
  · replace h := (eL h)
    refine AOps.cc hT hA {} (by cbv) (lb rfl) (R70wa hA e5) rfl (.inl rfl) rfl rfl rfl (lb rfl) rfl rfl ?_
    refine AOps.cd hT hA {} (by cbv) (lb rfl) ?_
    refine nT ?_
    refine AWp.seq ?_
    refine AWp.seq ?_
    have f10 := zeqF hA (a := 0) (b := 0) (c := true) rfl
    refine AWp.rg hT hA {} (by (repeat (cbv; simp only [f10])); first | done | cbv) (lb rfl) ?_
    refine nT ?_
    refine AWp.cdF rfl (by first | rfl | simp only [f10, Bool.not_true, Bool.not_false, cond_true, cond_false]) ?_
    refine AWp.skip ?_
    refine nT ?_
    refine AWp.seq ?_
    refine AWp.region ?_
    obtain ⟨r12, e11, h⟩ := bindS h
    refine AOps.cc hT hA { tk := [30], nl := [30] } (by (repeat (cbv; simp only [f10])); first | done | cbv) (lb rfl) (R62w hA e11) rfl (.inr rfl) rfl rfl rfl (lb rfl) rfl rfl ?_
    obtain ⟨r14, e13, h⟩ := bindS h
    refine AOps.cc hT hA { tk := [30], nl := [30] } (by (repeat (cbv; simp only [f10])); first | done | cbv) (lb rfl) (R62aw hA e13) rfl (.inl rfl) rfl rfl rfl (lb rfl) rfl rfl ?_
    refine AOps.cd hT hA { tk := [30], nl := [30] } (by (repeat (cbv; simp only [f10])); first | done | cbv) (lb rfl) ?_
    refine nT ?_
    refine AWp.seq ?_
    refine AWp.rg hT hA {} (by (repeat (cbv; simp only [f10])); first | done | cbv) (lb rfl) ?_
    refine nT ?_
    refine AWp.seq ?_
    refine AWp.seq ?_
    refine AWp.rg hT hA { tk := [39], arr := [11] } (by (repeat (cbv; simp only [f10])); first | done | cbv) (lb rfl) ?_
    refine nT ?_
    refine AWp.block ?_
    obtain ⟨xK234, hxK234, K234, hK234, hkK234⟩ := bindK h
    refine AWp.cutX 0 [] [] 3 (lb rfl) (fun τ => ∃ v231, K234 (.inl v231) = some (v237, v238) ∧ τ = { env := [], heap := [(.arr 1 r6), (.arr 1 r7), (.map true [.int .u8, .int .u8] v231)], n := 98 }) ?_ ?_
    · skip
      refine AWp.iter hxK234 [6, 7, 10, 11] [1000011] 3 (lb rfl) (fun (v158, v159) => { env := [(6, (.ptr 0 0)), (7, (.ptr 1 0)), (10, (.map 2)), (11, (.tail 3 v158))], heap := [(.arr 1 r6), (.arr 1 r7), (.map true [.int .u8, .int .u8] v159)], n := 98 }) ⟨rfl, (by first | (cbv; done) | ((repeat (cbv; simp only [f10])); first | done | cbv))⟩ ?_
      rintro ⟨v158, v159⟩ eK234 hsK234
      dsimp only [R23L1] at hsK234
      refine AWp.seq ?_
      refine AWp.seq ?_
      refine AWp.rg hT hA {} (by cbv) (lb rfl) ?_
      refine nT ?_
      rcases tf (A.zlt 0 (A.len v158)) with c160 | c160
      · replace hsK234 := cT c160 hsK234
        refine AWp.cdT rfl (by first | rfl | simp only [c160, Bool.not_true, Bool.not_false, cond_true, cond_false]) ?_
        refine AWp.skip ?_
        refine nT ?_
        refine AWp.seq ?_
        refine AWp.block ?_
        refine AWp.seq ?_
        obtain ⟨⟨a161, a162, a163⟩, e164, hsK234⟩ := bindS hsK234
        have f165 := gcI e164
        refine AWp.rg hT hA { tk := [47] } (by (repeat (cbv; simp only [c160, f165])); first | done | cbv) (lb rfl) ?_
        refine nT ?_
        refine AWp.seq ?_
        refine AWp.seq ?_
        refine AWp.rg hT hA {} (by (repeat (cbv; simp only [c160])); first | done | cbv) (lb rfl) ?_
        refine nT ?_
        rcases tf (A.zeq a162 0) with c166 | c166
        · replace hsK234 := cT c166 hsK234
          refine AWp.cdT rfl (by first | rfl | simp only [c160, c166, Bool.not_true, Bool.not_false, cond_true, cond_false]) ?_
          refine AWp.seq ?_
          refine AWp.rg hT hA {} (by (repeat (cbv; simp only [c160, c166])); first | done | cbv) (lb rfl) ?_
          refine nT ?_
          refine AWp.ret ?_
          refine rT ?_
          refine rB ?_
          refine rT ?_
          refine rT ?_
          refine exL hsK234 fun hx => ?_
          subst hx
          refine oxR ?_
          replace hkK234 := (eR (hK234 _ hkK234))
          refine rB ?_
          refine rT ?_
          cases soI hkK234
          exact ⟨rfl, rfl, rfl, lb rfl, _, rfl⟩
        · replace hsK234 := cF c166 hsK234
          refine AWp.cdF rfl (by first | rfl | simp only [c160, c166, Bool.not_true, Bool.not_false, cond_true, cond_false]) ?_
          refine AWp.skip ?_
          refine nT ?_
          refine AWp.seq ?_
          refine AWp.rg hT hA {} (by (repeat (cbv; simp only [c160, c166])); first | done | cbv) (lb rfl) ?_
          refine nT ?_
          refine AWp.block ?_
          obtain ⟨xK224, hxK224, K224, hK224, hkK224⟩ := bindK hsK234
          refine AWp.cutX 2 [6, 7, 10, 11] [] 3 (lb rfl) (fun τ => ∃ v222 v223, K224 (v222, v223) = some eK234 ∧ τ = { env := [(6, (.ptr 0 0)), (7, (.ptr 1 0)), (10, (.map 2)), (11, (.tail 3 v222))], heap := [(.arr 1 r6), (.arr 1 r7), (.map true [.int .u8, .int .u8] v223)], n := 98 }) ?_ ?_
          · skip
            refine AWp.iter hxK224 [6, 7, 10, 11, 12, 13] [] 3 (lb rfl) (fun (v193, v194, v195) => { env := [(6, (.ptr 0 0)), (7, (.ptr 1 0)), (10, (.map 2)), (11, (.tail 3 v193)), (12, (.lbox [(.d (.int .u8 a161)), (.d (.int .u8 a162)), (.d (.list 1 a163))])), (13, (.d (.int .i64 v194)))], heap := [(.arr 1 r6), (.arr 1 r7), (.map true [.int .u8, .int .u8] v195)], n := 98 }) ⟨rfl, (by first | (cbv; done) | ((repeat (cbv; simp only [c160, c166])); first | done | cbv))⟩ ?_
            rintro ⟨v193, v194, v195⟩ eK224 hsK224
            dsimp only [R23L0] at hsK224
            refine AWp.seq ?_
            refine AWp.seq ?_
            refine AWp.rg hT hA {} (by cbv) (lb rfl) ?_
            refine nT ?_
            rcases tf (A.zle v194 3) with c196 | c196
            · replace hsK224 := cT c196 hsK224
              refine AWp.cdT rfl (by first | rfl | simp only [c196, Bool.not_true, Bool.not_false, cond_true, cond_false]) ?_
              refine AWp.skip ?_
              refine nT ?_
              refine AWp.seq ?_
              refine AWp.block ?_
              refine AWp.seq ?_
              refine AWp.regionDraw rfl (lb rfl) ?_
              obtain ⟨r198, e197, hsK224⟩ := bindS hsK224
              refine DOps.cp hT hA { tk := [77] } rfl (by (repeat (cbv; simp only [c196])); first | done | cbv) (R68aw hA e197) rfl rfl rfl rfl (lb rfl) rfl rfl ?_
              obtain ⟨r200, e199, hsK224⟩ := bindS hsK224
              refine DOps.cp hT hA { tk := [77] } rfl (by (repeat (cbv; simp only [c196])); first | done | cbv) (R68cw hA e199) rfl rfl rfl rfl (lb rfl) rfl rfl ?_
              obtain ⟨r202, e201, hsK224⟩ := bindS hsK224
              refine DOps.c0 hT hA { tk := [77] } rfl (by (repeat (cbv; simp only [c196])); first | done | cbv) (R67w hA e201) rfl rfl (lb rfl) rfl rfl ?_
              obtain ⟨l203, e204, hsK224⟩ := bindS hsK224
              obtain ⟨f205, f206⟩ := apI e204
              refine DOps.cd hT hA { tk := [77] } rfl (by (repeat (cbv; simp only [c196, f205, f206])); first | done | cbv) (by kernel_rfl) ?_
              refine nT ?_
              refine AWp.seq ?_
              refine AWp.rg hT hA { tk := [82] } (by (repeat (cbv; simp only [c196])); first | done | cbv) (lb rfl) ?_
              refine nT ?_
              refine AWp.seq ?_
              obtain ⟨v212, hvK213, hsK224⟩ := bindS hsK224
              refine AWp.cutN [6, 7, 10, 11, 12, 13, 14, 15, 91] [] 3 (lb rfl) (fun τ => τ = { env := [(6, (.ptr 0 0)), (7, (.ptr 1 0)), (10, (.map 2)), (11, (.tail 3 v193)), (12, (.lbox [(.d (.int .u8 a161)), (.d (.int .u8 a162)), (.d (.list 1 a163))])), (13, (.d (.int .i64 v194))), (14, (.lbox [(.d (.int .u8 r198)), (.d (.int .u8 r200)), (.d (.list 1 l203))])), (15, (.lbox [(.d (.int .u8 r198)), (.d (.int .u8 r200))])), (91, (.d (.bool v212)))], heap := [(.arr 1 r6), (.arr 1 r7), (.map true [.int .u8, .int .u8] v195)], n := 98 }) ?_ ?_
              · skip
                rcases tf (A.zeq r198 0) with c207 | c207
                · replace hvK213 := cT c207 hvK213
                  refine AWp.rg hT hA {} (by (repeat (cbv; simp only [c196, c207])); first | done | cbv) (lb rfl) ?_
                  cases soI hvK213
                  exact oNi ⟨rfl, (by first | (cbv; done) | ((repeat (cbv; simp only [c196, c207])); first | done | cbv))⟩
                · replace hvK213 := cF c207 hvK213
                  obtain ⟨o211, e209, hvK213⟩ := bindS hvK213
                  rcases o211 with _ | a208
                  · have f210 := lkN e209
                    refine AWp.rg hT hA {} (by (repeat (cbv; simp only [c196, c207, f210])); first | done | cbv) (lb rfl) ?_
                    cases soI hvK213
                    exact oNi ⟨rfl, (by first | (cbv; done) | ((repeat (cbv; simp only [c196, c207])); first | done | cbv))⟩
                  · have f210 := lkS e209
                    refine AWp.rg hT hA {} (by (repeat (cbv; simp only [c196, c207, f210])); first | done | cbv) (lb rfl) ?_
                    cases soI hvK213
                    exact oNi ⟨rfl, (by first | (cbv; done) | ((repeat (cbv; simp only [c196, c207])); first | done | cbv))⟩
              · rintro _ rfl
                refine nT ?_
                obtain ⟨⟨v219, v220⟩, hvK221, hsK224⟩ := bindS hsK224
                refine AWp.cutN [6, 7, 10, 11, 12, 13] [] 3 (lb rfl) (fun τ => τ = { env := [(6, (.ptr 0 0)), (7, (.ptr 1 0)), (10, (.map 2)), (11, (.tail 3 v219)), (12, (.lbox [(.d (.int .u8 a161)), (.d (.int .u8 a162)), (.d (.list 1 a163))])), (13, (.d (.int .i64 v194)))], heap := [(.arr 1 r6), (.arr 1 r7), (.map true [.int .u8, .int .u8] v220)], n := 98 }) ?_ ?_
                · skip
                  rcases tf v212 with c214 | c214
                  · replace hvK221 := cT c214 hvK221
                    refine AWp.cdT rfl (by first | rfl | simp only [c214, Bool.not_true, Bool.not_false, cond_true, cond_false]) ?_
                    refine AWp.seq ?_
                    refine AWp.rg hT hA {} (by (repeat (cbv; simp only [c214])); first | done | cbv) (lb rfl) ?_
                    refine nT ?_
                    obtain ⟨l215, e216, hvK221⟩ := bindS hvK221
                    obtain ⟨f217, f218⟩ := apI e216
                    refine AWp.rg hT hA { tk := [11, 97], arr := [11, 94, 97] } (by (repeat (cbv; simp only [c214, f217, f218])); first | done | cbv) (lb rfl) ?_
                    cases soI hvK221
                    exact oNi ⟨rfl, (by first | (cbv; done) | ((repeat (cbv; simp only [c214])); first | done | cbv))⟩
                  · replace hvK221 := cF c214 hvK221
                    refine AWp.cdF rfl (by first | rfl | simp only [c214, Bool.not_true, Bool.not_false, cond_true, cond_false]) ?_
                    refine AWp.skip ?_
                    cases soI hvK221
                    exact oNi ⟨rfl, (by first | (cbv; done) | ((repeat (cbv; simp only [c214])); first | done | cbv))⟩
                · rintro _ rfl
                  refine nB ?_
                  refine nT ?_
                  refine AWp.rg hT hA {} (by cbv) (lb rfl) ?_
                  exact nT ⟨_, (soI hsK224).symm, rfl, (by cbv)⟩
            · replace hsK224 := cF c196 hsK224
              refine AWp.cdF rfl (by first | rfl | simp only [c196, Bool.not_true, Bool.not_false, cond_true, cond_false]) ?_
              refine AWp.exit ?_
              refine xT ?_
              refine xT ?_
              refine exL hsK224 fun hx => ?_
              subst hx
              exact oxI ⟨rfl, _, _, hkK224, (by first | (cbv; done) | ((repeat (cbv; simp only [c196])); first | done | cbv))⟩
          · rintro _ ⟨v222, v223, hkK224, rfl⟩
            have hsK234 := (hK224 _ hkK224)
            refine xB ?_
            refine nB ?_
            refine nT ?_
            obtain ⟨l225, e226, hsK234⟩ := bindS hsK234
            obtain ⟨f227, f228, f229, f230⟩ := slI e226
            refine AWp.rg hT hA { tk := [11, 44], arr := [11, 43, 44] } (by (repeat (cbv; simp only [f227, f228, f229, f230])); first | done | cbv) (lb rfl) ?_
            exact nT ⟨_, (soI hsK234).symm, rfl, (by cbv)⟩
      · replace hsK234 := cF c160 hsK234
        refine AWp.cdF rfl (by first | rfl | simp only [c160, Bool.not_true, Bool.not_false, cond_true, cond_false]) ?_
        refine AWp.exit ?_
        refine xT ?_
        refine xT ?_
        refine exL hsK234 fun hx => ?_
        subst hx
        exact oxI ⟨rfl, _, hkK234, (by first | (cbv; done) | ((repeat (cbv; simp only [c160])); first | done | cbv))⟩
    · rintro _ ⟨v231, hkK234, rfl⟩
      have h := (eL (hK234 _ hkK234))
      refine xB ?_
      refine nT ?_
      refine AWp.seq ?_
      refine AWp.rg hT hA {} (by cbv) (lb rfl) ?_
      refine nT ?_
      refine AWp.ret ?_
      cases soI h
      exact ⟨rfl, rfl, rfl, lb rfl, _, rfl⟩
  · replace h := (eL (eR h))
    refine AOps.cc hT hA {} (by cbv) (lb rfl) (R70wb hA e5) rfl (.inl rfl) rfl rfl rfl (lb rfl) rfl rfl ?_
    refine AOps.cd hT hA {} (by cbv) (lb rfl) ?_
    refine nT ?_
    refine AWp.seq ?_
    refine AWp.seq ?_
    have f235 := zeqF hA (a := 50) (b := 0) (c := false) rfl
    refine AWp.rg hT hA {} (by (repeat (cbv; simp only [f235])); first | done | cbv) (lb rfl) ?_
    refine nT ?_
    refine AWp.cdT rfl (by first | rfl | simp only [f235, Bool.not_true, Bool.not_false, cond_true, cond_false]) ?_
    refine AWp.seq ?_
    refine AWp.rg hT hA {} (by (repeat (cbv; simp only [f235])); first | done | cbv) (lb rfl) ?_
    refine nT ?_
    refine AWp.ret ?_
    refine rT ?_
    cases soI h
    exact ⟨rfl, rfl, rfl, lb rfl, _, rfl⟩
  · replace h := (eR (eR h))
    refine AOps.cc hT hA {} (by cbv) (lb rfl) (R70wc hA e5) rfl (.inl rfl) rfl rfl rfl (lb rfl) rfl rfl ?_
    refine AOps.cd hT hA {} (by cbv) (lb rfl) ?_
    refine nT ?_
    refine AWp.seq ?_
    refine AWp.seq ?_
    have f236 := zeqF hA (a := 50) (b := 0) (c := false) rfl
    refine AWp.rg hT hA {} (by (repeat (cbv; simp only [f236])); first | done | cbv) (lb rfl) ?_
    refine nT ?_
    refine AWp.cdT rfl (by first | rfl | simp only [f236, Bool.not_true, Bool.not_false, cond_true, cond_false]) ?_
    refine AWp.seq ?_
    refine AWp.rg hT hA {} (by (repeat (cbv; simp only [f236])); first | done | cbv) (lb rfl) ?_
    refine nT ?_
    refine AWp.ret ?_
    refine rT ?_
    cases soI h
    exact ⟨rfl, rfl, rfl, lb rfl, _, rfl⟩

theorem R27w {A : Ar} (hA : A = Ar.std) {x1 : List D} {x2 : List D} {v26 : Bool} (h : R27 A x1 x2 = some v26) : ACall Try.prog 27 [(.d (.list 1 x1)), (.d (.list 1 x2))] [] (.d (.bool v26)) [] := by
  unfold R27 at h
  refine ACall.enter hT (fn := Try.f27) Try.func27 rfl (by decide) (by simp [Try.f27]) rfl rfl rfl rfl (lb rfl) ?_
  refine AWp.seq ?_
  refine AWp.rg hT hA {} (by cbv) (lb rfl) ?_
  refine nT ?_
  refine AWp.seq ?_
  refine AWp.seq ?_
  refine AWp.rg hT hA {} (by cbv) (lb rfl) ?_
  refine nT ?_
  rcases tf (A.zeq (A.len x1) (A.len x2)) with c3 | c3
  · replace h := cT c3 h
    refine AWp.cdF rfl (by first | rfl | simp only [c3, Bool.not_true, Bool.not_false, cond_true, cond_false]) ?_
    refine AWp.skip ?_
    refine nT ?_
    refine AWp.seq ?_
    refine AWp.seq ?_
    refine AWp.rg hT hA {} (by (repeat (cbv; simp only [c3])); first | done | cbv) (lb rfl) ?_
    refine nT ?_
    refine AWp.block ?_
    obtain ⟨xK25, hxK25, K25, hK25, hkK25⟩ := bindK h
    refine AWp.cutX 0 [] [] 0 (lb rfl) (fun τ => K25 (.inl ()) = some v26 ∧ τ = { env := [], heap := [], n := 26 }) ?_ ?_
    · skip
      refine AWp.iter hxK25 [0, 1, 12, 13] [] 0 (lb rfl) (fun v14 => { env := [(0, (.d (.list 1 x1))), (1, (.d (.list 1 x2))), (12, (.d (.int .i64 (A.len x1)))), (13, (.d (.int .i64 v14)))], heap := [], n := 26 }) ⟨rfl, (by first | (cbv; done) | ((repeat (cbv; simp only [c3])); first | done | cbv))⟩ ?_
      rintro v14 eK25 hsK25
      dsimp only [R27L0] at hsK25
      refine AWp.seq ?_
      refine AWp.rg hT hA {} (by cbv) (lb rfl) ?_
      refine nT ?_
      refine AWp.seq ?_
      rcases tf (A.zlt v14 (A.len x1)) with c15 | c15
      · replace hsK25 := cT c15 hsK25
        refine AWp.cdT rfl (by first | rfl | simp only [c15, Bool.not_true, Bool.not_false, cond_true, cond_false]) ?_
        refine AWp.skip ?_
        refine nT ?_
        refine AWp.seq ?_
        refine AWp.block ?_
        refine AWp.seq ?_
        refine AWp.rg hT hA {} (by (repeat (cbv; simp only [c15])); first | done | cbv) (lb rfl) ?_
        refine nT ?_
        refine AWp.seq ?_
        obtain ⟨a16, e17, hsK25⟩ := bindS hsK25
        obtain ⟨f18, f19⟩ := gtI e17
        obtain ⟨a20, e21, hsK25⟩ := bindS hsK25
        obtain ⟨f22, f23⟩ := gtI e21
        refine AWp.rd hT hA {} rfl (by (repeat (cbv; simp only [c15, f18, f19, f22, f23])); first | done | cbv) (by kernel_rfl) (lb rfl) ?_
        refine nT ?_
        rcases tf (A.zeq a16 a20) with c24 | c24
        · replace hsK25 := cT c24 hsK25
          refine AWp.cdF rfl (by first | rfl | simp only [c15, c24, Bool.not_true, Bool.not_false, cond_true, cond_false]) ?_
          refine AWp.skip ?_
          refine nB ?_
          refine nT ?_
          refine AWp.rg hT hA {} (by (repeat (cbv; simp only [c15, c24])); first | done | cbv) (lb rfl) ?_
          exact nT ⟨_, (soI hsK25).symm, rfl, (by first | (cbv; done) | ((repeat (cbv; simp only [c15, c24])); first | done | cbv))⟩
        · replace hsK25 := cF c24 hsK25
          refine AWp.cdT rfl (by first | rfl | simp only [c15, c24, Bool.not_true, Bool.not_false, cond_true, cond_false]) ?_
          refine AWp.seq ?_
          refine AWp.rg hT hA {} (by (repeat (cbv; simp only [c15, c24])); first | done | cbv) (lb rfl) ?_
          refine nT ?_
          refine AWp.ret ?_
          refine rB ?_
          refine rT ?_
          refine rT ?_
          refine exL hsK25 fun hx => ?_
          subst hx
          refine oxR ?_
          replace hkK25 := (eR (hK25 _ hkK25))
          refine rB ?_
          refine rT ?_
          cases soI hkK25
          exact ⟨rfl, rfl, rfl, lb rfl, _, rfl⟩
      · replace hsK25 := cF c15 hsK25
        refine AWp.cdF rfl (by first | rfl | simp only [c15, Bool.not_true, Bool.not_false, cond_true, cond_false]) ?_
        refine AWp.exit ?_
        refine xT ?_
        refine xT ?_
        refine exL hsK25 fun hx => ?_
        subst hx
        exact oxI ⟨rfl, hkK25, (by first | (cbv; done) | ((repeat (cbv; simp only [c15])); first | done | cbv))⟩
    · rintro _ ⟨hkK25, rfl⟩
      have h := (eL (hK25 _ hkK25))
      refine xB ?_
      refine nT ?_
      refine AWp.seq ?_
      refine AWp.rg hT hA {} (by cbv) (lb rfl) ?_
      refine nT ?_
      refine AWp.ret ?_
      cases soI h
      exact ⟨rfl, rfl, rfl, lb rfl, _, rfl⟩
  · replace h := cF c3 h
    refine AWp.cdT rfl (by first | rfl | simp only [c3, Bool.not_true, Bool.not_false, cond_true, cond_false]) ?_
    refine AWp.seq ?_
    refine AWp.rg hT hA {} (by (repeat (cbv; simp only [c3])); first | done | cbv) (lb rfl) ?_
    refine nT ?_
    refine AWp.ret ?_
    refine rT ?_
    cases soI h
    exact ⟨rfl, rfl, rfl, lb rfl, _, rfl⟩

theorem R17w {A : Ar} (hA : A = Ar.std) {v9 : Bool} (h : R17 A = some v9) : ACall Try.prog 17 [] [] (.d (.bool v9)) [] := by
  unfold R17 at h
  refine ACall.enter hT (fn := Try.f17) Try.func17 rfl (by decide) (by simp [Try.f17]) rfl rfl rfl rfl (lb rfl) ?_
  refine AWp.seq ?_
  refine AWp.rg hT hA {} (by cbv) (lb rfl) ?_
  refine nT ?_
  refine AWp.seq ?_
  refine AWp.rg hT hA { tk := [8] } (by cbv) (lb rfl) ?_
  refine nT ?_
  refine AWp.seq ?_
  refine AWp.rg hT hA { tk := [13] } (by cbv) (lb rfl) ?_
  refine nT ?_
  refine AWp.seq ?_
  refine AWp.region ?_
  obtain ⟨⟨r2, r3⟩, e1, h⟩ := bindS h
  refine AOps.cc hT hA {} (by cbv) (lb rfl) (R23w hA e1) rfl (.inl rfl) rfl rfl rfl (lb rfl) rfl rfl ?_
  refine AOps.cd hT hA {} (by cbv) (lb rfl) ?_
  refine nT ?_
  refine AWp.seq ?_
  obtain ⟨v7, hvK8, h⟩ := bindS h
  refine AWp.cutN [0] [] 0 (lb rfl) (fun τ => τ = { env := [(0, (.d (.bool v7)))], heap := [], n := 27 }) ?_ ?_
  · skip
    refine AWp.region ?_
    rcases tf (A.zeq r3 0) with c4 | c4
    · replace hvK8 := cT c4 hvK8
      obtain ⟨r6, e5, hvK8⟩ := bindS hvK8
      refine AOps.cc hT hA { tk := [26] } (by (repeat (cbv; simp only [c4])); first | done | cbv) (lb rfl) (R27w hA e5) rfl (.inl rfl) rfl rfl rfl (lb rfl) rfl rfl ?_
      refine AOps.cd hT hA { tk := [26] } (by (repeat (cbv; simp only [c4])); first | done | cbv) (lb rfl) ?_
      cases soI hvK8
      exact oNi ⟨rfl, (by first | (cbv; done) | ((repeat (cbv; simp only [c4])); first | done | cbv))⟩
    · replace hvK8 := cF c4 hvK8
      refine AOps.cd hT hA { tk := [26] } (by (repeat (cbv; simp only [c4])); first | done | cbv) (lb rfl) ?_
      cases soI hvK8
      exact oNi ⟨rfl, (by first | (cbv; done) | ((repeat (cbv; simp only [c4])); first | done | cbv))⟩
  · rintro _ rfl
    refine nT ?_
    refine AWp.ret ?_
    cases soI h
    exact ⟨rfl, rfl, rfl, lb rfl, _, rfl⟩

theorem R61w {A : Ar} (hA : A = Ar.std) {x1 : Int} {v4 : Bool} (h : R61 A x1 = some v4) : ACall Try.prog 61 [(.d (.int .i64 x1))] [] (.d (.bool v4)) [] := by
  unfold R61 at h
  refine ACall.enter hT (fn := Try.f61) Try.func61 rfl (by decide) (by simp [Try.f61]) rfl rfl rfl rfl (lb rfl) ?_
  refine AWp.seq ?_
  refine AWp.rg hT hA {} (by cbv) (lb rfl) ?_
  refine nT ?_
  refine AWp.seq ?_
  refine AWp.region ?_
  obtain ⟨r3, e2, h⟩ := bindS h
  refine AOps.cc hT hA { tk := [4] } (by cbv) (lb rfl) (R65w hA e2) rfl (.inl rfl) rfl rfl rfl (lb rfl) rfl rfl ?_
  refine AOps.cd hT hA { tk := [4] } (by cbv) (lb rfl) ?_
  refine nT ?_
  refine AWp.ret ?_
  cases soI h
  exact ⟨rfl, rfl, rfl, lb rfl, _, rfl⟩

theorem R77w {A : Ar} (hA : A = Ar.std) {x1 : Int} {x2 : List D} {x3 : Int} {v7 : Bool} (h : R77 A x1 x2 x3 = some v7) : ACall Try.prog 77 [(.d (.agg [(.int .i64 x1), (.list 3 x2)])), (.d (.int .i64 x3))] [] (.d (.bool v7)) [] := by
  unfold R77 at h
  refine ACall.enter hT (fn := Try.f77) Try.func77 rfl (by decide) (by simp [Try.f77]) rfl rfl rfl rfl (lb rfl) ?_
  refine AWp.seq ?_
  refine AWp.rg hT hA {} (by cbv) (lb rfl) ?_
  refine nT ?_
  refine AWp.seq ?_
  obtain ⟨v5, hvK6, h⟩ := bindS h
  refine AWp.cutN [4] [] 0 (lb rfl) (fun τ => τ = { env := [(4, (.d (.bool v5)))], heap := [], n := 13 }) ?_ ?_
  · skip
    rcases tf (A.zle 0 x3) with c4 | c4
    · replace hvK6 := cT c4 hvK6
      refine AWp.rg hT hA { tk := [12] } (by (repeat (cbv; simp only [c4])); first | done | cbv) (lb rfl) ?_
      cases soI hvK6
      exact oNi ⟨rfl, (by first | (cbv; done) | ((repeat (cbv; simp only [c4])); first | done | cbv))⟩
    · replace hvK6 := cF c4 hvK6
      refine AWp.rg hT hA { tk := [12] } (by (repeat (cbv; simp only [c4])); first | done | cbv) (lb rfl) ?_
      cases soI hvK6
      exact oNi ⟨rfl, (by first | (cbv; done) | ((repeat (cbv; simp only [c4])); first | done | cbv))⟩
  · rintro _ rfl
    refine nT ?_
    refine AWp.ret ?_
    cases soI h
    exact ⟨rfl, rfl, rfl, lb rfl, _, rfl⟩

theorem R34w {A : Ar} (hA : A = Ar.std) {x1 : Int} {x2 : List D} {v92 : Bool} (h : R34 A x1 x2 = some v92) : ACall Try.prog 34 [(.d (.agg [(.int .i64 x1), (.list 3 x2)]))] [] (.d (.bool v92)) [] := by
  unfold R34 at h
  refine ACall.enter hT (fn := Try.f34) Try.func34 rfl (by decide) (by simp [Try.f34]) rfl rfl rfl rfl (lb rfl) ?_
  refine AWp.seq ?_
  refine AWp.rg hT hA {} (by cbv) (lb rfl) ?_
  refine nT ?_
  refine AWp.seq ?_
  refine AWp.seq ?_
  obtain ⟨v5, hvK6, h⟩ := bindS h
  refine AWp.cutN [1, 20] [] 0 (lb rfl) (fun τ => τ = { env := [(1, (.lbox [(.d (.int .i64 x1)), (.d (.list 3 x2))])), (20, (.d (.bool v5)))], heap := [], n := 65 }) ?_ ?_
  · skip
    rcases tf (A.zlt x1 1) with c3 | c3
    · replace hvK6 := cT c3 hvK6
      refine AWp.rg hT hA {} (by (repeat (cbv; simp only [c3])); first | done | cbv) (lb rfl) ?_
      cases soI hvK6
      exact oNi ⟨rfl, (by first | (cbv; done) | ((repeat (cbv; simp only [c3])); first | done | cbv))⟩
    · replace hvK6 := cF c3 hvK6
      rcases tf (A.zlt 6 x1) with c4 | c4
      · replace hvK6 := cT c4 hvK6
        refine AWp.rg hT hA {} (by (repeat (cbv; simp only [c3, c4])); first | done | cbv) (lb rfl) ?_
        cases soI hvK6
        exact oNi ⟨rfl, (by first | (cbv; done) | ((repeat (cbv; simp only [c3, c4])); first | done | cbv))⟩
      · replace hvK6 := cF c4 hvK6
        refine AWp.rg hT hA {} (by (repeat (cbv; simp only [c3, c4])); first | done | cbv) (lb rfl) ?_
        cases soI hvK6
        exact oNi ⟨rfl, (by first | (cbv; done) | ((repeat (cbv; simp only [c3, c4])); first | done | cbv))⟩
  · rintro _ rfl
    refine nT ?_
    rcases tf v5 with c7 | c7
    · replace h := cT c7 h
      refine AWp.cdT rfl (by first | rfl | simp only [c7, Bool.not_true, Bool.not_false, cond_true, cond_false]) ?_
      refine AWp.seq ?_
      refine AWp.rg hT hA {} (by (repeat (cbv; simp only [c7])); first | done | cbv) (lb rfl) ?_
      refine nT ?_
      refine AWp.ret ?_
      refine rT ?_
      cases soI h
      exact ⟨rfl, rfl, rfl, lb rfl, _, rfl⟩
    · replace h := cF c7 h
      refine AWp.cdF rfl (by first | rfl | simp only [c7, Bool.not_true, Bool.not_false, cond_true, cond_false]) ?_
      refine AWp.skip ?_
      refine nT ?_
      refine AWp.seq ?_
      refine AWp.seq ?_
      refine AWp.rg hT hA {} (by (repeat (cbv; simp only [c7])); first | done | cbv) (lb rfl) ?_
      refine nT ?_
      refine AWp.block ?_
      obtain ⟨xK91, hxK91, K91, hK91, hkK91⟩ := bindK h
      refine AWp.cutX 0 [] [] 0 (lb rfl) (fun τ => K91 (.inl ()) = some v92 ∧ τ = { env := [], heap := [], n := 65 }) ?_ ?_
      · skip
        refine AWp.iter hxK91 [1, 22, 23, 24] [] 0 (lb rfl) (fun v49 => { env := [(1, (.lbox [(.d (.int .i64 x1)), (.d (.list 3 x2))])), (22, (.d (.list 3 x2))), (23, (.d (.int .i64 (A.len x2)))), (24, (.d (.int .i64 v49)))], heap := [], n := 65 }) ⟨rfl, (by first | (cbv; done) | ((repeat (cbv; simp only [c7])); first | done | cbv))⟩ ?_
        rintro v49 eK91 hsK91
        dsimp only [R34L1] at hsK91
        refine AWp.seq ?_
        refine AWp.rg hT hA {} (by cbv) (lb rfl) ?_
        refine nT ?_
        refine AWp.seq ?_
        rcases tf (A.zlt v49 (A.len x2)) with c50 | c50
        · replace hsK91 := cT c50 hsK91
          refine AWp.cdT rfl (by first | rfl | simp only [c50, Bool.not_true, Bool.not_false, cond_true, cond_false]) ?_
          refine AWp.skip ?_
          refine nT ?_
          refine AWp.seq ?_
          refine AWp.block ?_
          refine AWp.seq ?_
          obtain ⟨⟨a51, a52, a53⟩, e54, hsK91⟩ := bindS hsK91
          obtain ⟨f55, f56⟩ := gtI e54
          refine AWp.rg hT hA { tk := [28] } (by (repeat (cbv; simp only [c50, f55, f56])); first | done | cbv) (lb rfl) ?_
          refine nT ?_
          refine AWp.seq ?_
          refine AWp.seq ?_
          obtain ⟨v64, hvK65, hsK91⟩ := bindS hsK91
          refine AWp.cutN [1, 3, 4, 22, 23, 24, 50] [] 0 (lb rfl) (fun τ => τ = { env := [(1, (.lbox [(.d (.int .i64 x1)), (.d (.list 3 x2))])), (3, (.d (.int .i64 v49))), (4, (.lbox [(.d (.int .i64 a51)), (.d (.int .i64 a52)), (.d (.int .i64 a53))])), (22, (.d (.list 3 x2))), (23, (.d (.int .i64 (A.len x2)))), (24, (.d (.int .i64 v49))), (50, (.d (.bool v64)))], heap := [], n := 65 }) ?_ ?_
          · skip
            refine AWp.region ?_
            obtain ⟨r58, e57, hvK65⟩ := bindS hvK65
            refine AOps.cc hT hA {} (by (repeat (cbv; simp only [c50])); first | done | cbv) (lb rfl) (R77w hA e57) rfl (.inl rfl) rfl rfl rfl (lb rfl) rfl rfl ?_
            rcases tf r58 with c59 | c59
            · replace hvK65 := cT c59 hvK65
              obtain ⟨r61, e60, hvK65⟩ := bindS hvK65
              refine AOps.cc hT hA {} (by (repeat (cbv; simp only [c50, c59])); first | done | cbv) (lb rfl) (R77w hA e60) rfl (.inl rfl) rfl rfl rfl (lb rfl) rfl rfl ?_
              rcases tf r61 with c62 | c62
              · replace hvK65 := cT c62 hvK65
                rcases tf (A.zlt a52 0) with c63 | c63
                · replace hvK65 := cT c63 hvK65
                  refine AOps.cd hT hA {} (by (repeat (cbv; simp only [c50, c59, c62, c63])); first | done | cbv) (lb rfl) ?_
                  cases soI hvK65
                  exact oNi ⟨rfl, (by first | (cbv; done) | ((repeat (cbv; simp only [c50, c59, c62, c63])); first | done | cbv))⟩
                · replace hvK65 := cF c63 hvK65
                  refine AOps.cd hT hA {} (by (repeat (cbv; simp only [c50, c59, c62, c63])); first | done | cbv) (lb rfl) ?_
                  cases soI hvK65
                  exact oNi ⟨rfl, (by first | (cbv; done) | ((repeat (cbv; simp only [c50, c59, c62, c63])); first | done | cbv))⟩
              · replace hvK65 := cF c62 hvK65
                refine AOps.cd hT hA {} (by (repeat (cbv; simp only [c50, c59, c62])); first | done | cbv) (lb rfl) ?_
                cases soI hvK65
                exact oNi ⟨rfl, (by first | (cbv; done) | ((repeat (cbv; simp only [c50, c59, c62])); first | done | cbv))⟩
            · replace hvK65 := cF c59 hvK65
              refine AOps.cd hT hA {} (by (repeat (cbv; simp only [c50, c59])); first | done | cbv) (lb rfl) ?_
              cases soI hvK65
              exact oNi ⟨rfl, (by first | (cbv; done) | ((repeat (cbv; simp only [c50, c59])); first | done | cbv))⟩
          · rintro _ rfl
            refine nT ?_
            rcases tf v64 with c66 | c66
            · replace hsK91 := cT c66 hsK91
              refine AWp.cdT rfl (by first | rfl | simp only [c66, Bool.not_true, Bool.not_false, cond_true, cond_false]) ?_
              refine AWp.seq ?_
              refine AWp.rg hT hA {} (by (repeat (cbv; simp only [c66])); first | done | cbv) (lb rfl) ?_
              refine nT ?_
              refine AWp.ret ?_
              refine rT ?_
              refine rB ?_
              refine rT ?_
              refine rT ?_
              refine exL hsK91 fun hx => ?_
              subst hx
              refine oxR ?_
              replace hkK91 := (eR (hK91 _ hkK91))
              refine rB ?_
              refine rT ?_
              cases soI hkK91
              exact ⟨rfl, rfl, rfl, lb rfl, _, rfl⟩
            · replace hsK91 := cF c66 hsK91
              refine AWp.cdF rfl (by first | rfl | simp only [c66, Bool.not_true, Bool.not_false, cond_true, cond_false]) ?_
              refine AWp.skip ?_
              refine nT ?_
              refine AWp.seq ?_
              obtain ⟨l67, e68, hsK91⟩ := bindS hsK91
              obtain ⟨f69, f70, f71, f72⟩ := slI e68
              refine AWp.rg hT hA {} (by (repeat (cbv; simp only [c66, f69, f70, f71, f72])); first | done | cbv) (lb rfl) ?_
              refine nT ?_
              refine AWp.block ?_
              obtain ⟨xK90, hxK90, K90, hK90, hkK90⟩ := bindK hsK91
              refine AWp.cutX 2 [1, 22, 23, 24] [] 0 (lb rfl) (fun τ => K90 (.inl ()) = some eK91 ∧ τ = { env := [(1, (.lbox [(.d (.int .i64 x1)), (.d (.list 3 x2))])), (22, (.d (.list 3 x2))), (23, (.d (.int .i64 (A.len x2)))), (24, (.d (.int .i64 v49)))], heap := [], n := 65 }) ?_ ?_
              · skip
                refine AWp.iter hxK90 [1, 4, 22, 23, 24, 54, 55, 56] [] 0 (lb rfl) (fun v81 => { env := [(1, (.lbox [(.d (.int .i64 x1)), (.d (.list 3 x2))])), (4, (.lbox [(.d (.int .i64 a51)), (.d (.int .i64 a52)), (.d (.int .i64 a53))])), (22, (.d (.list 3 x2))), (23, (.d (.int .i64 (A.len x2)))), (24, (.d (.int .i64 v49))), (54, (.d (.list 3 l67))), (55, (.d (.int .i64 (A.len l67)))), (56, (.d (.int .i64 v81)))], heap := [], n := 65 }) ⟨rfl, (by first | (cbv; done) | ((repeat (cbv; simp only [c66])); first | done | cbv))⟩ ?_
                rintro v81 eK90 hsK90
                dsimp only [R34L0] at hsK90
                refine AWp.seq ?_
                refine AWp.rg hT hA {} (by cbv) (lb rfl) ?_
                refine nT ?_
                refine AWp.seq ?_
                rcases tf (A.zlt v81 (A.len l67)) with c82 | c82
                · replace hsK90 := cT c82 hsK90
                  refine AWp.cdT rfl (by first | rfl | simp only [c82, Bool.not_true, Bool.not_false, cond_true, cond_false]) ?_
                  refine AWp.skip ?_
                  refine nT ?_
                  refine AWp.seq ?_
                  refine AWp.block ?_
                  refine AWp.seq ?_
                  obtain ⟨⟨a83, a84, a85⟩, e86, hsK90⟩ := bindS hsK90
                  obtain ⟨f87, f88⟩ := gtI e86
                  refine AWp.rg hT hA { tk := [59] } (by (repeat (cbv; simp only [c82, f87, f88])); first | done | cbv) (lb rfl) ?_
                  refine nT ?_
                  refine AWp.seq ?_
                  refine AWp.rg hT hA {} (by (repeat (cbv; simp only [c82])); first | done | cbv) (lb rfl) ?_
                  refine nT ?_
                  rcases tf (A.deq [(.int .i64 a51), (.int .i64 a52), (.int .i64 a53)] [(.int .i64 a83), (.int .i64 a84), (.int .i64 a85)]) with c89 | c89
                  · replace hsK90 := cT c89 hsK90
                    refine AWp.cdT rfl (by first | rfl | simp only [c82, c89, Bool.not_true, Bool.not_false, cond_true, cond_false]) ?_
                    refine AWp.seq ?_
                    refine AWp.rg hT hA {} (by (repeat (cbv; simp only [c82, c89])); first | done | cbv) (lb rfl) ?_
                    refine nT ?_
                    refine AWp.ret ?_
                    refine rB ?_
                    refine rT ?_
                    refine rT ?_
                    refine exL hsK90 fun hx => ?_
                    subst hx
                    refine oxR ?_
                    replace hkK90 := (eR (hK90 _ hkK90))
                    refine rB ?_
                    refine rB ?_
                    refine rT ?_
                    refine rT ?_
                    refine exL hkK90 fun hx => ?_
                    subst hx
                    refine oxR ?_
                    replace hkK91 := (eR (hK91 _ hkK91))
                    refine rB ?_
                    refine rT ?_
                    cases soI hkK91
                    exact ⟨rfl, rfl, rfl, lb rfl, _, rfl⟩
                  · replace hsK90 := cF c89 hsK90
                    refine AWp.cdF rfl (by first | rfl | simp only [c82, c89, Bool.not_true, Bool.not_false, cond_true, cond_false]) ?_
                    refine AWp.skip ?_
                    refine nB ?_
                    refine nT ?_
                    refine AWp.rg hT hA {} (by (repeat (cbv; simp only [c82, c89])); first | done | cbv) (lb rfl) ?_
                    exact nT ⟨_, (soI hsK90).symm, rfl, (by first | (cbv; done) | ((repeat (cbv; simp only [c82, c89])); first | done | cbv))⟩
                · replace hsK90 := cF c82 hsK90
                  refine AWp.cdF rfl (by first | rfl | simp only [c82, Bool.not_true, Bool.not_false, cond_true, cond_false]) ?_
                  refine AWp.exit ?_
                  refine xT ?_
                  refine xT ?_
                  refine exL hsK90 fun hx => ?_
                  subst hx
                  exact oxI ⟨rfl, hkK90, (by first | (cbv; done) | ((repeat (cbv; simp only [c82])); first | done | cbv))⟩
              · rintro _ ⟨hkK90, rfl⟩
                have hsK91 := (eL (hK90 _ hkK90))
                refine xB ?_
                refine nB ?_
                refine nT ?_
                refine AWp.rg hT hA {} (by cbv) (lb rfl) ?_
                exact nT ⟨_, (soI hsK91).symm, rfl, (by cbv)⟩
        · replace hsK91 := cF c50 hsK91
          refine AWp.cdF rfl (by first | rfl | simp only [c50, Bool.not_true, Bool.not_false, cond_true, cond_false]) ?_
          refine AWp.exit ?_
          refine xT ?_
          refine xT ?_
          refine exL hsK91 fun hx => ?_
          subst hx
          exact oxI ⟨rfl, hkK91, (by first | (cbv; done) | ((repeat (cbv; simp only [c50])); first | done | cbv))⟩
      · rintro _ ⟨hkK91, rfl⟩
        have h := (eL (hK91 _ hkK91))
        refine xB ?_
        refine nT ?_
        refine AWp.seq ?_
        refine AWp.rg hT hA {} (by cbv) (lb rfl) ?_
        refine nT ?_
        refine AWp.ret ?_
        cases soI h
        exact ⟨rfl, rfl, rfl, lb rfl, _, rfl⟩

theorem R63w {A : Ar} (hA : A = Ar.std) {x1 : Int} {v5 : Bool} (h : R63 A x1 = some v5) : ACall Try.prog 63 [(.d (.int .i64 x1))] [] (.d (.bool v5)) [] := by
  unfold R63 at h
  refine ACall.enter hT (fn := Try.f63) Try.func63 rfl (by decide) (by simp [Try.f63]) rfl rfl rfl rfl (lb rfl) ?_
  refine AWp.seq ?_
  refine AWp.rg hT hA {} (by cbv) (lb rfl) ?_
  refine nT ?_
  refine AWp.seq ?_
  obtain ⟨v3, hvK4, h⟩ := bindS h
  refine AWp.cutN [2] [] 0 (lb rfl) (fun τ => τ = { env := [(2, (.d (.bool v3)))], heap := [], n := 9 }) ?_ ?_
  · skip
    rcases tf (A.zle 1 x1) with c2 | c2
    · replace hvK4 := cT c2 hvK4
      refine AWp.rg hT hA { tk := [8] } (by (repeat (cbv; simp only [c2])); first | done | cbv) (lb rfl) ?_
      cases soI hvK4
      exact oNi ⟨rfl, (by first | (cbv; done) | ((repeat (cbv; simp only [c2])); first | done | cbv))⟩
    · replace hvK4 := cF c2 hvK4
      refine AWp.rg hT hA { tk := [8] } (by (repeat (cbv; simp only [c2])); first | done | cbv) (lb rfl) ?_
      cases soI hvK4
      exact oNi ⟨rfl, (by first | (cbv; done) | ((repeat (cbv; simp only [c2])); first | done | cbv))⟩
  · rintro _ rfl
    refine nT ?_
    refine AWp.ret ?_
    cases soI h
    exact ⟨rfl, rfl, rfl, lb rfl, _, rfl⟩

theorem R30w {A : Ar} (hA : A = Ar.std) {x1 : Int} {x2 : List D} {x3 : Int} {x4 : List D} {v39 : Bool} (h : R30 A x1 x2 x3 x4 = some v39) : ACall Try.prog 30 [(.d (.agg [(.int .i64 x1), (.list 3 x2)])), (.d (.agg [(.int .i64 x3), (.list 3 x4)]))] [] (.d (.bool v39)) [] := by
  unfold R30 at h
  refine ACall.enter hT (fn := Try.f30) Try.func30 rfl (by decide) (by simp [Try.f30]) rfl rfl rfl rfl (lb rfl) ?_
  refine AWp.seq ?_
  refine AWp.rg hT hA {} (by cbv) (lb rfl) ?_
  refine nT ?_
  refine AWp.seq ?_
  refine AWp.seq ?_
  obtain ⟨v6, hvK7, h⟩ := bindS h
  refine AWp.cutN [2, 3, 19] [] 0 (lb rfl) (fun τ => τ = { env := [(2, (.lbox [(.d (.int .i64 x1)), (.d (.list 3 x2))])), (3, (.lbox [(.d (.int .i64 x3)), (.d (.list 3 x4))])), (19, (.d (.bool v6)))], heap := [], n := 38 }) ?_ ?_
  · skip
    rcases tf (A.zeq x1 x3) with c5 | c5
    · replace hvK7 := cT c5 hvK7
      refine AWp.rg hT hA {} (by (repeat (cbv; simp only [c5])); first | done | cbv) (lb rfl) ?_
      cases soI hvK7
      exact oNi ⟨rfl, (by first | (cbv; done) | ((repeat (cbv; simp only [c5])); first | done | cbv))⟩
    · replace hvK7 := cF c5 hvK7
      refine AWp.rg hT hA {} (by (repeat (cbv; simp only [c5])); first | done | cbv) (lb rfl) ?_
      cases soI hvK7
      exact oNi ⟨rfl, (by first | (cbv; done) | ((repeat (cbv; simp only [c5])); first | done | cbv))⟩
  · rintro _ rfl
    refine nT ?_
    rcases tf v6 with c8 | c8
    · replace h := cT c8 h
      refine AWp.cdT rfl (by first | rfl | simp only [c8, Bool.not_true, Bool.not_false, cond_true, cond_false]) ?_
      refine AWp.seq ?_
      refine AWp.rg hT hA {} (by (repeat (cbv; simp only [c8])); first | done | cbv) (lb rfl) ?_
      refine nT ?_
      refine AWp.ret ?_
      refine rT ?_
      cases soI h
      exact ⟨rfl, rfl, rfl, lb rfl, _, rfl⟩
    · replace h := cF c8 h
      refine AWp.cdF rfl (by first | rfl | simp only [c8, Bool.not_true, Bool.not_false, cond_true, cond_false]) ?_
      refine AWp.skip ?_
      refine nT ?_
      refine AWp.seq ?_
      refine AWp.seq ?_
      refine AWp.rg hT hA {} (by (repeat (cbv; simp only [c8])); first | done | cbv) (lb rfl) ?_
      refine nT ?_
      refine AWp.block ?_
      obtain ⟨xK38, hxK38, K38, hK38, hkK38⟩ := bindK h
      refine AWp.cutX 0 [] [] 0 (lb rfl) (fun τ => K38 (.inl ()) = some v39 ∧ τ = { env := [], heap := [], n := 38 }) ?_ ?_
      · skip
        refine AWp.iter hxK38 [2, 3, 22, 23] [] 0 (lb rfl) (fun v23 => { env := [(2, (.lbox [(.d (.int .i64 x1)), (.d (.list 3 x2))])), (3, (.lbox [(.d (.int .i64 x3)), (.d (.list 3 x4))])), (22, (.d (.int .i64 (A.len x2)))), (23, (.d (.int .i64 v23)))], heap := [], n := 38 }) ⟨rfl, (by first | (cbv; done) | ((repeat (cbv; simp only [c8])); first | done | cbv))⟩ ?_
        rintro v23 eK38 hsK38
        dsimp only [R30L0] at hsK38
        refine AWp.seq ?_
        refine AWp.rg hT hA {} (by cbv) (lb rfl) ?_
        refine nT ?_
        refine AWp.seq ?_
        rcases tf (A.zlt v23 (A.len x2)) with c24 | c24
        · replace hsK38 := cT c24 hsK38
          refine AWp.cdT rfl (by first | rfl | simp only [c24, Bool.not_true, Bool.not_false, cond_true, cond_false]) ?_
          refine AWp.skip ?_
          refine nT ?_
          refine AWp.seq ?_
          refine AWp.block ?_
          refine AWp.seq ?_
          refine AWp.rg hT hA {} (by (repeat (cbv; simp only [c24])); first | done | cbv) (lb rfl) ?_
          refine nT ?_
          refine AWp.seq ?_
          obtain ⟨⟨a25, a26, a27⟩, e28, hsK38⟩ := bindS hsK38
          obtain ⟨f29, f30⟩ := gtI e28
          obtain ⟨⟨a31, a32, a33⟩, e34, hsK38⟩ := bindS hsK38
          obtain ⟨f35, f36⟩ := gtI e34
          refine AWp.rd hT hA {} rfl (by (repeat (cbv; simp only [c24, f29, f30, f35, f36])); first | done | cbv) (by kernel_rfl) (lb rfl) ?_
          refine nT ?_
          rcases tf (A.deq [(.int .i64 a25), (.int .i64 a26), (.int .i64 a27)] [(.int .i64 a31), (.int .i64 a32), (.int .i64 a33)]) with c37 | c37
          · replace hsK38 := cT c37 hsK38
            refine AWp.cdF rfl (by first | rfl | simp only [c24, c37, Bool.not_true, Bool.not_false, cond_true, cond_false]) ?_
            refine AWp.skip ?_
            refine nB ?_
            refine nT ?_
            refine AWp.rg hT hA {} (by (repeat (cbv; simp only [c24, c37])); first | done | cbv) (lb rfl) ?_
            exact nT ⟨_, (soI hsK38).symm, rfl, (by first | (cbv; done) | ((repeat (cbv; simp only [c24, c37])); first | done | cbv))⟩
          · replace hsK38 := cF c37 hsK38
            refine AWp.cdT rfl (by first | rfl | simp only [c24, c37, Bool.not_true, Bool.not_false, cond_true, cond_false]) ?_
            refine AWp.seq ?_
            refine AWp.rg hT hA {} (by (repeat (cbv; simp only [c24, c37])); first | done | cbv) (lb rfl) ?_
            refine nT ?_
            refine AWp.ret ?_
            refine rB ?_
            refine rT ?_
            refine rT ?_
            refine exL hsK38 fun hx => ?_
            subst hx
            refine oxR ?_
            replace hkK38 := (eR (hK38 _ hkK38))
            refine rB ?_
            refine rT ?_
            cases soI hkK38
            exact ⟨rfl, rfl, rfl, lb rfl, _, rfl⟩
        · replace hsK38 := cF c24 hsK38
          refine AWp.cdF rfl (by first | rfl | simp only [c24, Bool.not_true, Bool.not_false, cond_true, cond_false]) ?_
          refine AWp.exit ?_
          refine xT ?_
          refine xT ?_
          refine exL hsK38 fun hx => ?_
          subst hx
          exact oxI ⟨rfl, hkK38, (by first | (cbv; done) | ((repeat (cbv; simp only [c24])); first | done | cbv))⟩
      · rintro _ ⟨hkK38, rfl⟩
        have h := (eL (hK38 _ hkK38))
        refine xB ?_
        refine nT ?_
        refine AWp.seq ?_
        refine AWp.rg hT hA {} (by cbv) (lb rfl) ?_
        refine nT ?_
        refine AWp.ret ?_
        cases soI h
        exact ⟨rfl, rfl, rfl, lb rfl, _, rfl⟩

theorem R126w {A : Ar} (hA : A = Ar.std) {x1 : Int} {v2 : Bool} (h : R126 A x1 = some v2) : ACall Try.prog 126 [(.d (.int .i64 x1))] [] (.d (.bool v2)) [] := by
  unfold R126 at h
  refine ACall.enter hT (fn := Try.f126) Try.func126 rfl (by decide) (by simp [Try.f126]) rfl rfl rfl rfl (lb rfl) ?_
  refine AWp.seq ?_
  refine AWp.rg hT hA {} (by cbv) (lb rfl) ?_
  refine nT ?_
  refine AWp.seq ?_
  refine AWp.rg hT hA { tk := [5] } (by cbv) (lb rfl) ?_
  refine nT ?_
  refine AWp.ret ?_
  cases soI h
  exact ⟨rfl, rfl, rfl, lb rfl, _, rfl⟩

theorem R114w {A : Ar} (hA : A = Ar.std) {x1 : Int} {x2 : Int} {v12 : Int} (h : R114 A x1 x2 = some v12) : ACall Try.prog 114 [(.d (.int .i64 x1)), (.d (.int .i64 x2))] [] (.d (.int .i64 v12)) [] := by
  unfold R114 at h
  refine ACall.enter hT (fn := Try.f114) Try.func114 rfl (by decide) (by simp [Try.f114]) rfl rfl rfl rfl (lb rfl) ?_
  refine AWp.seq ?_
  refine AWp.rg hT hA {} (by cbv) (lb rfl) ?_
  refine nT ?_
  refine AWp.seq ?_
  refine AWp.region ?_
  obtain ⟨r4, e3, h⟩ := bindS h
  refine AOps.cc hT hA {} (by cbv) (lb rfl) (R126w hA e3) rfl (.inl rfl) rfl rfl rfl (lb rfl) rfl rfl ?_
  refine AOps.cd hT hA {} (by cbv) (lb rfl) ?_
  refine nT ?_
  refine AWp.seq ?_
  refine AWp.region ?_
  obtain ⟨r6, e5, h⟩ := bindS h
  refine AOps.cc hT hA {} (by cbv) (lb rfl) (R126w hA e5) rfl (.inl rfl) rfl rfl rfl (lb rfl) rfl rfl ?_
  refine AOps.cd hT hA {} (by cbv) (lb rfl) ?_
  refine nT ?_
  refine AWp.seq ?_
  refine AWp.seq ?_
  refine AWp.rg hT hA {} (by cbv) (lb rfl) ?_
  refine nT ?_
  rcases tf r4 with c7 | c7
  · replace h := cT c7 h
    refine AWp.cdT rfl (by first | rfl | simp only [c7, Bool.not_true, Bool.not_false, cond_true, cond_false]) ?_
    refine AWp.seq ?_
    refine AWp.seq ?_
    refine AWp.rg hT hA {} (by (repeat (cbv; simp only [c7])); first | done | cbv) (lb rfl) ?_
    refine nT ?_
    rcases tf r6 with c8 | c8
    · replace h := cT c8 h
      refine AWp.cdT rfl (by first | rfl | simp only [c7, c8, Bool.not_true, Bool.not_false, cond_true, cond_false]) ?_
      refine AWp.seq ?_
      refine AWp.rg hT hA {} (by (repeat (cbv; simp only [c7, c8])); first | done | cbv) (lb rfl) ?_
      refine nT ?_
      refine AWp.ret ?_
      refine rT ?_
      refine rT ?_
      cases soI h
      exact ⟨rfl, rfl, rfl, lb rfl, _, rfl⟩
    · replace h := cF c8 h
      refine AWp.cdF rfl (by first | rfl | simp only [c7, c8, Bool.not_true, Bool.not_false, cond_true, cond_false]) ?_
      refine AWp.skip ?_
      refine nT ?_
      refine AWp.seq ?_
      refine AWp.rg hT hA {} (by (repeat (cbv; simp only [c7, c8])); first | done | cbv) (lb rfl) ?_
      refine nT ?_
      refine AWp.ret ?_
      refine rT ?_
      cases soI h
      exact ⟨rfl, rfl, rfl, lb rfl, _, rfl⟩
  · replace h := cF c7 h
    refine AWp.cdF rfl (by first | rfl | simp only [c7, Bool.not_true, Bool.not_false, cond_true, cond_false]) ?_
    refine AWp.skip ?_
    refine nT ?_
    refine AWp.seq ?_
    refine AWp.seq ?_
    refine AWp.rg hT hA {} (by (repeat (cbv; simp only [c7])); first | done | cbv) (lb rfl) ?_
    refine nT ?_
    rcases tf r6 with c9 | c9
    · replace h := cT c9 h
      refine AWp.cdT rfl (by first | rfl | simp only [c7, c9, Bool.not_true, Bool.not_false, cond_true, cond_false]) ?_
      refine AWp.seq ?_
      refine AWp.rg hT hA {} (by (repeat (cbv; simp only [c7, c9])); first | done | cbv) (lb rfl) ?_
      refine nT ?_
      refine AWp.ret ?_
      refine rT ?_
      cases soI h
      exact ⟨rfl, rfl, rfl, lb rfl, _, rfl⟩
    · replace h := cF c9 h
      refine AWp.cdF rfl (by first | rfl | simp only [c7, c9, Bool.not_true, Bool.not_false, cond_true, cond_false]) ?_
      refine AWp.skip ?_
      refine nT ?_
      refine AWp.seq ?_
      refine AWp.seq ?_
      refine AWp.rg hT hA {} (by (repeat (cbv; simp only [c7, c9])); first | done | cbv) (lb rfl) ?_
      refine nT ?_
      rcases tf (A.zlt x1 x2) with c10 | c10
      · replace h := cT c10 h
        refine AWp.cdT rfl (by first | rfl | simp only [c7, c9, c10, Bool.not_true, Bool.not_false, cond_true, cond_false]) ?_
        refine AWp.seq ?_
        refine AWp.rg hT hA {} (by (repeat (cbv; simp only [c7, c9, c10])); first | done | cbv) (lb rfl) ?_
        refine nT ?_
        refine AWp.ret ?_
        refine rT ?_
        cases soI h
        exact ⟨rfl, rfl, rfl, lb rfl, _, rfl⟩
      · replace h := cF c10 h
        refine AWp.cdF rfl (by first | rfl | simp only [c7, c9, c10, Bool.not_true, Bool.not_false, cond_true, cond_false]) ?_
        refine AWp.skip ?_
        refine nT ?_
        refine AWp.seq ?_
        refine AWp.seq ?_
        refine AWp.rg hT hA {} (by (repeat (cbv; simp only [c7, c9, c10])); first | done | cbv) (lb rfl) ?_
        refine nT ?_
        rcases tf (A.zlt x2 x1) with c11 | c11
        · replace h := cT c11 h
          refine AWp.cdT rfl (by first | rfl | simp only [c7, c9, c10, c11, Bool.not_true, Bool.not_false, cond_true, cond_false]) ?_
          refine AWp.seq ?_
          refine AWp.rg hT hA {} (by (repeat (cbv; simp only [c7, c9, c10, c11])); first | done | cbv) (lb rfl) ?_
          refine nT ?_
          refine AWp.ret ?_
          refine rT ?_
          cases soI h
          exact ⟨rfl, rfl, rfl, lb rfl, _, rfl⟩
        · replace h := cF c11 h
          refine AWp.cdF rfl (by first | rfl | simp only [c7, c9, c10, c11, Bool.not_true, Bool.not_false, cond_true, cond_false]) ?_
          refine AWp.skip ?_
          refine nT ?_
          refine AWp.seq ?_
          refine AWp.rg hT hA {} (by (repeat (cbv; simp only [c7, c9, c10, c11])); first | done | cbv) (lb rfl) ?_
          refine nT ?_
          refine AWp.ret ?_
          cases soI h
          exact ⟨rfl, rfl, rfl, lb rfl, _, rfl⟩

theorem R109w {A : Ar} (hA : A = Ar.std) {x1 : List D} {x2 : Int} {x3 : Int} {x4 : Int} {v24 : Int} (h : R109 A x1 x2 x3 x4 = some v24) : ACall Try.prog 109 [(.d (.list 3 x1)), (.d (.agg [(.int .i64 x2), (.int .i64 x3), (.int .i64 x4)]))] [] (.d (.int .i64 v24)) [] := by
  unfold R109 at h
  refine ACall.enter hT (fn := Try.f109) Try.func109 rfl (by decide) (by simp [Try.f109]) rfl rfl rfl rfl (lb rfl) ?_
  refine AWp.seq ?_
  refine AWp.rg hT hA {} (by cbv) (lb rfl) ?_
  refine nT ?_
  refine AWp.seq ?_
  refine AWp.seq ?_
  refine AWp.rg hT hA {} (by cbv) (lb rfl) ?_
  refine nT ?_
  refine AWp.block ?_
  obtain ⟨xK23, hxK23, K23, hK23, hkK23⟩ := bindK h
  refine AWp.cutX 0 [] [] 0 (lb rfl) (fun τ => K23 (.inl ()) = some v24 ∧ τ = { env := [], heap := [], n := 19 }) ?_ ?_
  · skip
    refine AWp.iter hxK23 [0, 3, 7, 8] [] 0 (lb rfl) (fun v13 => { env := [(0, (.d (.list 3 x1))), (3, (.lbox [(.d (.int .i64 x2)), (.d (.int .i64 x3)), (.d (.int .i64 x4))])), (7, (.d (.int .i64 (A.len x1)))), (8, (.d (.int .i64 v13)))], heap := [], n := 19 }) ⟨rfl, (by cbv)⟩ ?_
    rintro v13 eK23 hsK23
    dsimp only [R109L0] at hsK23
    refine AWp.seq ?_
    refine AWp.rg hT hA {} (by cbv) (lb rfl) ?_
    refine nT ?_
    refine AWp.seq ?_
    rcases tf (A.zlt v13 (A.len x1)) with c14 | c14
    · replace hsK23 := cT c14 hsK23
      refine AWp.cdT rfl (by first | rfl | simp only [c14, Bool.not_true, Bool.not_false, cond_true, cond_false]) ?_
      refine AWp.skip ?_
      refine nT ?_
      refine AWp.seq ?_
      refine AWp.block ?_
      refine AWp.seq ?_
      refine AWp.rg hT hA { tk := [8, 10] } (by (repeat (cbv; simp only [c14])); first | done | cbv) (lb rfl) ?_
      refine nT ?_
      refine AWp.seq ?_
      obtain ⟨⟨a15, a16, a17⟩, e18, hsK23⟩ := bindS hsK23
      obtain ⟨f19, f20⟩ := gtI e18
      refine AWp.rd hT hA {} rfl (by (repeat (cbv; simp only [c14, f19, f20])); first | done | cbv) (by kernel_rfl) (lb rfl) ?_
      refine nT ?_
      rcases tf (A.deq [(.int .i64 x2), (.int .i64 x3), (.int .i64 x4)] [(.int .i64 a15), (.int .i64 a16), (.int .i64 a17)]) with c21 | c21
      · replace hsK23 := cT c21 hsK23
        refine AWp.cdT rfl (by first | rfl | simp only [c14, c21, Bool.not_true, Bool.not_false, cond_true, cond_false]) ?_
        refine AWp.seq ?_
        refine AWp.rg hT hA { tk := [5, 17] } (by (repeat (cbv; simp only [c14, c21])); first | done | cbv) (lb rfl) ?_
        refine nT ?_
        refine AWp.ret ?_
        refine rB ?_
        refine rT ?_
        refine rT ?_
        refine exL hsK23 fun hx => ?_
        subst hx
        refine oxR ?_
        replace hkK23 := (eR (hK23 _ hkK23))
        refine rB ?_
        refine rT ?_
        cases soI hkK23
        exact ⟨rfl, rfl, rfl, lb rfl, _, rfl⟩
      · replace hsK23 := cF c21 hsK23
        refine AWp.cdF rfl (by first | rfl | simp only [c14, c21, Bool.not_true, Bool.not_false, cond_true, cond_false]) ?_
        refine AWp.skip ?_
        refine nB ?_
        refine nT ?_
        refine AWp.rg hT hA { tk := [18] } (by (repeat (cbv; simp only [c14, c21])); first | done | cbv) (lb rfl) ?_
        exact nT ⟨_, (soI hsK23).symm, rfl, (by first | (cbv; done) | ((repeat (cbv; simp only [c14, c21])); first | done | cbv))⟩
    · replace hsK23 := cF c14 hsK23
      refine AWp.cdF rfl (by first | rfl | simp only [c14, Bool.not_true, Bool.not_false, cond_true, cond_false]) ?_
      refine AWp.exit ?_
      refine xT ?_
      refine xT ?_
      refine exL hsK23 fun hx => ?_
      subst hx
      exact oxI ⟨rfl, hkK23, (by first | (cbv; done) | ((repeat (cbv; simp only [c14])); first | done | cbv))⟩
  · rintro _ ⟨hkK23, rfl⟩
    have h := (eL (hK23 _ hkK23))
    refine xB ?_
    refine nT ?_
    refine AWp.seq ?_
    refine AWp.rg hT hA {} (by cbv) (lb rfl) ?_
    refine nT ?_
    refine AWp.ret ?_
    cases soI h
    exact ⟨rfl, rfl, rfl, lb rfl, _, rfl⟩

theorem R89w {A : Ar} (hA : A = Ar.std) {x1 : List D} {x2 : Int} {x3 : Int} {x4 : Int} {v7 : Bool} (h : R89 A x1 x2 x3 x4 = some v7) : ACall Try.prog 89 [(.d (.list 3 x1)), (.d (.agg [(.int .i64 x2), (.int .i64 x3), (.int .i64 x4)]))] [] (.d (.bool v7)) [] := by
  unfold R89 at h
  refine ACall.enter hT (fn := Try.f89) Try.func89 rfl (by decide) (by simp [Try.f89]) rfl rfl rfl rfl (lb rfl) ?_
  refine AWp.seq ?_
  refine AWp.rg hT hA {} (by cbv) (lb rfl) ?_
  refine nT ?_
  refine AWp.seq ?_
  refine AWp.region ?_
  obtain ⟨r6, e5, h⟩ := bindS h
  refine AOps.cc hT hA { tk := [8] } (by cbv) (lb rfl) (R109w hA e5) rfl (.inl rfl) rfl rfl rfl (lb rfl) rfl rfl ?_
  refine AOps.cd hT hA { tk := [8] } (by cbv) (lb rfl) ?_
  refine nT ?_
  refine AWp.ret ?_
  cases soI h
  exact ⟨rfl, rfl, rfl, lb rfl, _, rfl⟩

theorem R43w {A : Ar} (hA : A = Ar.std) {x1 : Int} {x2 : List D} {x3 : Int} {v52 : Int} {v53 : List D} {v54 : Int} (h : R43 A x1 x2 x3 = some (v52, v53, v54)) : ACall Try.prog 43 [(.d (.agg [(.int .i64 x1), (.list 3 x2)])), (.d (.int .i64 x3))] [] (.tuple [(.d (.agg [(.int .i64 v52), (.list 3 v53)])), (.d (.int .i64 v54))]) [] := by
  unfold R43 at h
  refine ACall.enter hT (fn := Try.f43) Try.func43 rfl (by decide) (by simp [Try.f43]) rfl rfl rfl rfl (lb rfl) ?_
  refine AWp.seq ?_
  refine AWp.rg hT hA {} (by cbv) (lb rfl) ?_
  refine nT ?_
  refine AWp.seq ?_
  refine AWp.block ?_
  refine AWp.seq ?_
  refine AWp.region ?_
  obtain ⟨r5, e4, h⟩ := bindS h
  refine AOps.cc hT hA {} (by cbv) (lb rfl) (R33w hA e4) rfl (.inl rfl) rfl rfl rfl (lb rfl) rfl rfl ?_
  refine AOps.cd hT hA {} (by cbv) (lb rfl) ?_
  refine nT ?_
  rcases tf r5 with c6 | c6
  · replace h := cT c6 h
    refine AWp.cdF rfl (by first | rfl | simp only [c6, Bool.not_true, Bool.not_false, cond_true, cond_false]) ?_
    refine AWp.seq ?_
    refine AWp.region ?_
    obtain ⟨r8, e7, h⟩ := bindS h
    refine AOps.cc hT hA {} (by (repeat (cbv; simp only [c6])); first | done | cbv) (lb rfl) (R61w hA e7) rfl (.inl rfl) rfl rfl rfl (lb rfl) rfl rfl ?_
    refine AOps.cd hT hA {} (by (repeat (cbv; simp only [c6])); first | done | cbv) (lb rfl) ?_
    refine nT ?_
    rcases tf r8 with c9 | c9
    · replace h := cT c9 h
      refine AWp.cdF rfl (by first | rfl | simp only [c6, c9, Bool.not_true, Bool.not_false, cond_true, cond_false]) ?_
      refine AWp.skip ?_
      refine nB ?_
      refine nT ?_
      refine AWp.seq ?_
      refine AWp.rg hT hA { tk := [21], nl := [21] } (by (repeat (cbv; simp only [c6, c9])); first | done | cbv) (lb rfl) ?_
      refine nT ?_
      refine AWp.seq ?_
      refine AWp.seq ?_
      refine AWp.rg hT hA {} (by (repeat (cbv; simp only [c6, c9])); first | done | cbv) (lb rfl) ?_
      refine nT ?_
      refine AWp.block ?_
      obtain ⟨xK51, hxK51, K51, hK51, hkK51⟩ := bindK h
      refine AWp.cutX 1 [4, 6] [] 0 (lb rfl) (fun τ => ∃ v50, K51 v50 = some (v52, v53, v54) ∧ τ = { env := [(4, (.lbox [(.d (.int .i64 0)), (.own 3 [])])), (6, (.lbox [(.d (.int .i64 x1)), (.own 3 v50)]))], heap := [], n := 47 }) ?_ ?_
      · skip
        refine AWp.iter hxK51 [1, 4, 6, 23, 24, 25] [] 0 (lb rfl) (fun (v29, v30) => { env := [(1, (.d (.int .i64 x3))), (4, (.lbox [(.d (.int .i64 0)), (.own 3 [])])), (6, (.lbox [(.d (.int .i64 x1)), (.own 3 v29)])), (23, (.d (.list 3 x2))), (24, (.d (.int .i64 (A.len x2)))), (25, (.d (.int .i64 v30)))], heap := [], n := 47 }) ⟨rfl, (by first | (cbv; done) | ((repeat (cbv; simp only [c6, c9])); first | done | cbv))⟩ ?_
        rintro ⟨v29, v30⟩ eK51 hsK51
        dsimp only [R43L0] at hsK51
        refine AWp.seq ?_
        refine AWp.rg hT hA {} (by cbv) (lb rfl) ?_
        refine nT ?_
        refine AWp.seq ?_
        rcases tf (A.zlt v30 (A.len x2)) with c31 | c31
        · replace hsK51 := cT c31 hsK51
          refine AWp.cdT rfl (by first | rfl | simp only [c31, Bool.not_true, Bool.not_false, cond_true, cond_false]) ?_
          refine AWp.skip ?_
          refine nT ?_
          refine AWp.seq ?_
          refine AWp.block ?_
          refine AWp.seq ?_
          obtain ⟨⟨a32, a33, a34⟩, e35, hsK51⟩ := bindS hsK51
          obtain ⟨f36, f37⟩ := gtI e35
          refine AWp.rg hT hA { tk := [28] } (by (repeat (cbv; simp only [c31, f36, f37])); first | done | cbv) (lb rfl) ?_
          refine nT ?_
          refine AWp.seq ?_
          refine AWp.seq ?_
          refine AWp.rg hT hA {} (by (repeat (cbv; simp only [c31])); first | done | cbv) (lb rfl) ?_
          refine nT ?_
          obtain ⟨v39, hvK40, hsK51⟩ := bindS hsK51
          refine AWp.cutN [1, 4, 6, 8, 23, 24, 25] [] 0 (lb rfl) (fun τ => τ = { env := [(1, (.d (.int .i64 x3))), (4, (.lbox [(.d (.int .i64 0)), (.own 3 [])])), (6, (.lbox [(.d (.int .i64 x1)), (.own 3 v29)])), (8, (.lbox [(.d (.int .i64 a32)), (.d (.int .i64 v39)), (.d (.int .i64 a34))])), (23, (.d (.list 3 x2))), (24, (.d (.int .i64 (A.len x2)))), (25, (.d (.int .i64 v30)))], heap := [], n := 47 }) ?_ ?_
          · skip
            rcases tf (A.zeq a33 x3) with c38 | c38
            · replace hvK40 := cT c38 hvK40
              refine AWp.cdT rfl (by first | rfl | simp only [c31, c38, Bool.not_true, Bool.not_false, cond_true, cond_false]) ?_
              refine AWp.rg hT hA {} (by (repeat (cbv; simp only [c31, c38])); first | done | cbv) (lb rfl) ?_
              cases soI hvK40
              exact oNi ⟨rfl, (by first | (cbv; done) | ((repeat (cbv; simp only [c31, c38])); first | done | cbv))⟩
            · replace hvK40 := cF c38 hvK40
              refine AWp.cdF rfl (by first | rfl | simp only [c31, c38, Bool.not_true, Bool.not_false, cond_true, cond_false]) ?_
              refine AWp.skip ?_
              cases soI hvK40
              exact oNi ⟨rfl, (by first | (cbv; done) | ((repeat (cbv; simp only [c31, c38])); first | done | cbv))⟩
          · rintro _ rfl
            refine nT ?_
            refine AWp.seq ?_
            refine AWp.region ?_
            obtain ⟨r42, e41, hsK51⟩ := bindS hsK51
            refine AOps.cc hT hA {} (by cbv) (lb rfl) (R89w hA e41) rfl (.inl rfl) rfl rfl rfl (lb rfl) rfl rfl ?_
            refine AOps.cd hT hA {} (by cbv) (lb rfl) ?_
            refine nT ?_
            obtain ⟨v48, hvK49, hsK51⟩ := bindS hsK51
            refine AWp.cutN [1, 4, 6, 23, 24, 25] [] 0 (lb rfl) (fun τ => τ = { env := [(1, (.d (.int .i64 x3))), (4, (.lbox [(.d (.int .i64 0)), (.own 3 [])])), (6, (.lbox [(.d (.int .i64 x1)), (.own 3 v48)])), (23, (.d (.list 3 x2))), (24, (.d (.int .i64 (A.len x2)))), (25, (.d (.int .i64 v30)))], heap := [], n := 47 }) ?_ ?_
            · skip
              rcases tf r42 with c43 | c43
              · replace hvK49 := cT c43 hvK49
                refine AWp.cdF rfl (by first | rfl | simp only [c43, Bool.not_true, Bool.not_false, cond_true, cond_false]) ?_
                refine AWp.skip ?_
                cases soI hvK49
                exact oNi ⟨rfl, (by first | (cbv; done) | ((repeat (cbv; simp only [c43])); first | done | cbv))⟩
              · replace hvK49 := cF c43 hvK49
                refine AWp.cdT rfl (by first | rfl | simp only [c43, Bool.not_true, Bool.not_false, cond_true, cond_false]) ?_
                obtain ⟨l44, e45, hvK49⟩ := bindS hvK49
                obtain ⟨f46, f47⟩ := apI e45
                refine AWp.rg hT hA { tk := [40, 43] } (by (repeat (cbv; simp only [c43, f46, f47])); first | done | cbv) (lb rfl) ?_
                cases soI hvK49
                exact oNi ⟨rfl, (by first | (cbv; done) | ((repeat (cbv; simp only [c43])); first | done | cbv))⟩
            · rintro _ rfl
              refine nB ?_
              refine nT ?_
              refine AWp.rg hT hA {} (by cbv) (lb rfl) ?_
              exact nT ⟨_, (soI hsK51).symm, rfl, (by cbv)⟩
        · replace hsK51 := cF c31 hsK51
          refine AWp.cdF rfl (by first | rfl | simp only [c31, Bool.not_true, Bool.not_false, cond_true, cond_false]) ?_
          refine AWp.exit ?_
          refine xT ?_
          refine xT ?_
          refine exL hsK51 fun hx => ?_
          subst hx
          exact oxI ⟨rfl, _, hkK51, (by first | (cbv; done) | ((repeat (cbv; simp only [c31])); first | done | cbv))⟩
      · rintro _ ⟨v50, hkK51, rfl⟩
        have h := (hK51 _ hkK51)
        refine xB ?_
        refine nT ?_
        refine AWp.seq ?_
        refine AWp.rg hT hA { tk := [46] } (by cbv) (lb rfl) ?_
        refine nT ?_
        refine AWp.ret ?_
        cases soI h
        exact ⟨rfl, rfl, rfl, lb rfl, _, rfl⟩
    · replace h := cF c9 h
      refine AWp.cdT rfl (by first | rfl | simp only [c6, c9, Bool.not_true, Bool.not_false, cond_true, cond_false]) ?_
      refine AWp.seq ?_
      refine AWp.rg hT hA { tk := [18], nl := [18] } (by (repeat (cbv; simp only [c6, c9])); first | done | cbv) (lb rfl) ?_
      refine nT ?_
      refine AWp.ret ?_
      refine rB ?_
      refine rT ?_
      cases soI h
      exact ⟨rfl, rfl, rfl, lb rfl, _, rfl⟩
  · replace h := cF c6 h
    refine AWp.cdT rfl (by first | rfl | simp only [c6, Bool.not_true, Bool.not_false, cond_true, cond_false]) ?_
    refine AWp.seq ?_
    refine AWp.rg hT hA { tk := [13], nl := [13] } (by (repeat (cbv; simp only [c6])); first | done | cbv) (lb rfl) ?_
    refine nT ?_
    refine AWp.ret ?_
    refine rB ?_
    refine rT ?_
    cases soI h
    exact ⟨rfl, rfl, rfl, lb rfl, _, rfl⟩

theorem R93w {A : Ar} (hA : A = Ar.std) {x1 : List D} {v12 : List D} (h : R93 A x1 = some v12) : ACall Try.prog 93 [(.d (.list 3 x1))] [] (.own 3 v12) [] := by
  unfold R93 at h
  refine ACall.enter hT (fn := Try.f93) Try.func93 rfl (by decide) (by simp [Try.f93]) rfl rfl rfl rfl (lb rfl) ?_
  refine AWp.seq ?_
  refine AWp.rg hT hA {} (by cbv) (lb rfl) ?_
  refine nT ?_
  refine AWp.seq ?_
  refine AWp.seq ?_
  rcases tf (A.zlt 0 (A.len x1)) with c2 | c2
  · replace h := cT c2 h
    refine AWp.rg hT hA {} (by (repeat (cbv; simp only [c2])); first | done | cbv) (lb rfl) ?_
    refine nT ?_
    refine AWp.cond (b := false) (by cbv; simp only [c2]) ?_
    rw [if_neg Bool.false_ne_true]
    refine AWp.skip ?_
    refine nT ?_
    refine AWp.seq ?_
    obtain ⟨l4, e5, h⟩ := bindS h
    obtain ⟨f6, f7⟩ := apI e5
    refine AWp.rg hT hA { tk := [7] } (by (repeat (cbv; simp only [c2, f6, f7])); first | done | cbv) (lb rfl) ?_
    refine nT ?_
    refine AWp.ret ?_
    cases soI h
    exact ⟨rfl, rfl, rfl, lb rfl, _, rfl⟩
  · replace h := cF c2 h
    refine AWp.rg hT hA {} (by (repeat (cbv; simp only [c2])); first | done | cbv) (lb rfl) ?_
    refine nT ?_
    obtain ⟨hc3a, hc3b⟩ := bothI h
    refine AWp.condAny (by cbv; simp only [c2]) ?_ ?_
    · replace h := hc3a
      refine AWp.seq ?_
      refine AWp.rg hT hA {} (by (repeat (cbv; simp only [c2])); first | done | cbv) (lb rfl) ?_
      refine nT ?_
      refine AWp.ret ?_
      refine rT ?_
      cases soI h
      exact ⟨rfl, rfl, rfl, lb rfl, _, rfl⟩
    · replace h := hc3b
      refine AWp.skip ?_
      refine nT ?_
      refine AWp.seq ?_
      obtain ⟨l8, e9, h⟩ := bindS h
      obtain ⟨f10, f11⟩ := apI e9
      refine AWp.rg hT hA { tk := [7] } (by (repeat (cbv; simp only [c2, f10, f11])); first | done | cbv) (lb rfl) ?_
      refine nT ?_
      refine AWp.ret ?_
      cases soI h
      exact ⟨rfl, rfl, rfl, lb rfl, _, rfl⟩

theorem R92w {A : Ar} (hA : A = Ar.std) {x1 : Int} {x2 : Int} {x3 : Int} {x4 : Int} {x5 : List D} {v41 : Int} {v42 : Int} {v43 : List D} (h : R92 A x1 x2 x3 x4 x5 = some (v41, v42, v43)) : ACall Try.prog 92 [(.mref 0 3 x1 x2), (.d (.int .i64 x3)), (.d (.int .i64 x4))] [(.arr 3 x5)] (.mref 0 3 v41 v42) [(.arr 3 v43)] := by
  unfold R92 at h
  refine ACall.enter hT (fn := Try.f92) Try.func92 rfl (by decide) (by simp [Try.f92]) rfl rfl rfl rfl (lb rfl) ?_
  refine AWp.seq ?_
  refine AWp.rg hT hA {} (by cbv) (lb rfl) ?_
  refine nT ?_
  refine AWp.seq ?_
  obtain ⟨_, e6, h⟩ := bindS h
  have f10 := ckI e6
  obtain ⟨_, e7, h⟩ := bindS h
  have f11 := ckI e7
  obtain ⟨_, e8, h⟩ := bindS h
  have f12 := ckI e8
  obtain ⟨_, e9, h⟩ := bindS h
  have f13 := ckI e9
  refine AWp.rg hT hA {} (by (repeat (cbv; simp only [f10, f11, f12, f13])); first | done | cbv) (lb rfl) ?_
  refine nT ?_
  refine AWp.seq ?_
  refine AWp.seq ?_
  refine AWp.rg hT hA {} (by cbv) (lb rfl) ?_
  refine nT ?_
  rcases tf (A.zeq x3 x4) with c14 | c14
  · replace h := cT c14 h
    refine AWp.cdT rfl (by first | rfl | simp only [c14, Bool.not_true, Bool.not_false, cond_true, cond_false]) ?_
    refine AWp.seq ?_
    refine AWp.rg hT hA { tk := [0, 17] } (by (repeat (cbv; simp only [c14])); first | done | cbv) (lb rfl) ?_
    refine nT ?_
    refine AWp.ret ?_
    refine rT ?_
    cases soI h
    exact ⟨rfl, rfl, rfl, lb rfl, _, rfl⟩
  · replace h := cF c14 h
    refine AWp.cdF rfl (by first | rfl | simp only [c14, Bool.not_true, Bool.not_false, cond_true, cond_false]) ?_
    refine AWp.skip ?_
    refine nT ?_
    refine AWp.seq ?_
    refine AWp.rg hT hA {} (by (repeat (cbv; simp only [c14])); first | done | cbv) (lb rfl) ?_
    refine nT ?_
    refine AWp.seq ?_
    obtain ⟨_, e15, h⟩ := bindS h
    have f18 := ckI e15
    obtain ⟨_, e16, h⟩ := bindS h
    have f19 := ckI e16
    obtain ⟨_, e17, h⟩ := bindS h
    have f20 := ckI e17
    obtain ⟨_, e21, h⟩ := bindS h
    have f24 := ckI e21
    obtain ⟨_, e22, h⟩ := bindS h
    have f25 := ckI e22
    obtain ⟨_, e23, h⟩ := bindS h
    have f26 := ckI e23
    obtain ⟨_, e27, h⟩ := bindS h
    have f30 := ckI e27
    obtain ⟨_, e28, h⟩ := bindS h
    have f31 := ckI e28
    obtain ⟨_, e29, h⟩ := bindS h
    have f32 := ckI e29
    refine AWp.rd hT hA { tk := [26], th := [22] } rfl (by (repeat (cbv; simp only [c14, f18, f19, f20, f24, f25, f26, f30, f31, f32])); first | done | cbv) (by kernel_rfl) (lb rfl) ?_
    refine nT ?_
    refine AWp.seq ?_
    obtain ⟨_, e33, h⟩ := bindS h
    have f36 := ckI e33
    obtain ⟨_, e34, h⟩ := bindS h
    have f37 := ckI e34
    obtain ⟨_, e35, h⟩ := bindS h
    have f38 := ckI e35
    obtain ⟨_, e39, h⟩ := bindS h
    have f40 := ckI e39
    refine AWp.rg hT hA {} (by (repeat (cbv; simp only [c14, f36, f37, f38, f40])); first | done | cbv) (lb rfl) ?_
    refine nT ?_
    refine AWp.seq ?_
    refine AWp.rg hT hA { tk := [0, 32] } (by (repeat (cbv; simp only [c14])); first | done | cbv) (lb rfl) ?_
    refine nT ?_
    refine AWp.uncap (s := 6) rfl ?_
    refine AWp.ret ?_
    cases soI h
    exact ⟨rfl, rfl, rfl, lb rfl, _, rfl⟩

theorem R92aw {A : Ar} (hA : A = Ar.std) {x1 : List D} {x2 : Int} {x3 : Int} {v25 : List D} (h : R92a A x1 x2 x3 = some v25) : ACall Try.prog 92 [(.d (.list 3 x1)), (.d (.int .i64 x2)), (.d (.int .i64 x3))] [] (.d (.list 3 v25)) [] := by
  unfold R92a at h
  refine ACall.enter hT (fn := Try.f92) Try.func92 rfl (by decide) (by simp [Try.f92]) rfl rfl rfl rfl (lb rfl) ?_
  refine AWp.seq ?_
  refine AWp.rg hT hA {} (by cbv) (lb rfl) ?_
  refine nT ?_
  refine AWp.seq ?_
  obtain ⟨l4, e5, h⟩ := bindS h
  obtain ⟨f6, f7, f8, f9⟩ := slI e5
  obtain ⟨_, e10, h⟩ := bindS h
  have f11 := ckI e10
  refine AWp.rg hT hA {} (by (repeat (cbv; simp only [f6, f7, f8, f9, f11])); first | done | cbv) (lb rfl) ?_
  refine nT ?_
  refine AWp.seq ?_
  refine AWp.seq ?_
  refine AWp.rg hT hA {} (by cbv) (lb rfl) ?_
  refine nT ?_
  rcases tf (A.zeq x2 x3) with c12 | c12
  · replace h := cT c12 h
    refine AWp.cdT rfl (by first | rfl | simp only [c12, Bool.not_true, Bool.not_false, cond_true, cond_false]) ?_
    refine AWp.seq ?_
    refine AWp.rg hT hA { tk := [0, 17] } (by (repeat (cbv; simp only [c12])); first | done | cbv) (lb rfl) ?_
    refine nT ?_
    refine AWp.ret ?_
    refine rT ?_
    cases soI h
    exact ⟨rfl, rfl, rfl, lb rfl, _, rfl⟩
  · replace h := cF c12 h
    refine AWp.cdF rfl (by first | rfl | simp only [c12, Bool.not_true, Bool.not_false, cond_true, cond_false]) ?_
    refine AWp.skip ?_
    refine nT ?_
    refine AWp.seq ?_
    refine AWp.rg hT hA {} (by (repeat (cbv; simp only [c12])); first | done | cbv) (lb rfl) ?_
    refine nT ?_
    refine AWp.seq ?_
    obtain ⟨l13, e14, h⟩ := bindS h
    obtain ⟨f15, f16, f17, f18⟩ := slI e14
    obtain ⟨l19, e20, h⟩ := bindS h
    obtain ⟨f21, f22, f23, f24⟩ := slI e20
    cases h

theorem R45w {A : Ar} (hA : A = Ar.std) {x1 : Int} {x2 : List D} {x3 : Int} {v27 : Int} {v28 : List D} {v29 : Int} (h : R45 A x1 x2 x3 = some (v27, v28, v29)) : ACall Try.prog 45 [(.d (.agg [(.int .i64 x1), (.list 3 x2)])), (.d (.int .i64 x3))] [] (.tuple [(.d (.agg [(.int .i64 v27), (.list 3 v28)])), (.d (.int .i64 v29))]) [] := by
  unfold R45 at h
  refine ACall.enter hT (fn := Try.f45) Try.func45 rfl (by decide) (by simp [Try.f45]) rfl rfl rfl rfl (lb rfl) ?_
  refine AWp.seq ?_
  refine AWp.rg hT hA {} (by cbv) (lb rfl) ?_
  refine nT ?_
  refine AWp.seq ?_
  refine AWp.block ?_
  refine AWp.seq ?_
  refine AWp.region ?_
  obtain ⟨r5, e4, h⟩ := bindS h
  refine AOps.cc hT hA {} (by cbv) (lb rfl) (R33w hA e4) rfl (.inl rfl) rfl rfl rfl (lb rfl) rfl rfl ?_
  refine AOps.cd hT hA {} (by cbv) (lb rfl) ?_
  refine nT ?_
  rcases tf r5 with c6 | c6
  · replace h := cT c6 h
    refine AWp.cdF rfl (by first | rfl | simp only [c6, Bool.not_true, Bool.not_false, cond_true, cond_false]) ?_
    refine AWp.seq ?_
    obtain ⟨v8, hvK9, h⟩ := bindS h
    refine AWp.cutN [1, 2, 4, 11] [] 0 (lb rfl) (fun τ => τ = { env := [(1, (.d (.int .i64 x3))), (2, (.lbox [(.d (.int .i64 x1)), (.d (.list 3 x2))])), (4, (.lbox [(.d (.int .i64 0)), (.own 3 [])])), (11, (.d (.bool v8)))], heap := [], n := 32 }) ?_ ?_
    · skip
      rcases tf (A.zlt x3 0) with c7 | c7
      · replace hvK9 := cT c7 hvK9
        refine AWp.rg hT hA {} (by (repeat (cbv; simp only [c6, c7])); first | done | cbv) (lb rfl) ?_
        cases soI hvK9
        exact oNi ⟨rfl, (by first | (cbv; done) | ((repeat (cbv; simp only [c6, c7])); first | done | cbv))⟩
      · replace hvK9 := cF c7 hvK9
        refine AWp.rg hT hA {} (by (repeat (cbv; simp only [c6, c7])); first | done | cbv) (lb rfl) ?_
        cases soI hvK9
        exact oNi ⟨rfl, (by first | (cbv; done) | ((repeat (cbv; simp only [c6, c7])); first | done | cbv))⟩
    · rintro _ rfl
      refine nT ?_
      rcases tf v8 with c10 | c10
      · replace h := cT c10 h
        refine AWp.cdT rfl (by first | rfl | simp only [c10, Bool.not_true, Bool.not_false, cond_true, cond_false]) ?_
        refine AWp.seq ?_
        refine AWp.rg hT hA { tk := [21], nl := [21] } (by (repeat (cbv; simp only [c10])); first | done | cbv) (lb rfl) ?_
        refine nT ?_
        refine AWp.ret ?_
        refine rB ?_
        refine rT ?_
        cases soI h
        exact ⟨rfl, rfl, rfl, lb rfl, _, rfl⟩
      · replace h := cF c10 h
        refine AWp.cdF rfl (by first | rfl | simp only [c10, Bool.not_true, Bool.not_false, cond_true, cond_false]) ?_
        refine AWp.skip ?_
        refine nB ?_
        refine nT ?_
        refine AWp.seq ?_
        obtain ⟨v25, hvK26, h⟩ := bindS h
        refine AWp.cutN [4, 5] [] 0 (lb rfl) (fun τ => τ = { env := [(4, (.lbox [(.d (.int .i64 x1)), (.d (.list 3 v25))])), (5, (.d (.int .i64 0)))], heap := [], n := 32 }) ?_ ?_
        · skip
          refine AWp.regionDraw rfl (lb rfl) ?_
          obtain ⟨r12, e11, hvK26⟩ := bindS hvK26
          rcases tf (A.zlt 0 (A.len r12)) with c13 | c13
          · replace hvK26 := cT c13 hvK26
            obtain ⟨_, e14, hvK26⟩ := bindS hvK26
            refine DOps.cc hT hA { tk := [31] } rfl (by (repeat (cbv; simp only [c10])); first | done | cbv) (ACall.thaw (R93w hA e11) rfl rfl (neL hA c13) (ckI e14) (H := []) rfl (lenL hA)) rfl (.inl rfl) rfl rfl rfl (lb rfl) rfl rfl ?_
            obtain ⟨⟨r16, r17, r18⟩, e15, hvK26⟩ := bindS hvK26
            obtain ⟨l19, e20, hvK26⟩ := bindS hvK26
            obtain ⟨f21, f22⟩ := fzI hA e20
            refine DOps.cl hT hA { tk := [31] } rfl (by (repeat (cbv; simp only [c10, c13])); first | done | cbv) (ACall.frz (R92w hA e15) rfl f21 f22 rfl) rfl rfl rfl rfl rfl (lb rfl) rfl rfl ?_
            refine DOps.cd hT hA { tk := [31] } rfl (by (repeat (cbv; simp only [c10, c13])); first | done | cbv) (by kernel_rfl) ?_
            cases soI hvK26
            exact oNi ⟨rfl, (by first | (cbv; done) | ((repeat (cbv; simp only [c10, c13])); first | done | cbv))⟩
          · replace hvK26 := cF c13 hvK26
            refine DOps.c0 hT hA { tk := [31] } rfl (by (repeat (cbv; simp only [c10])); first | done | cbv) (R93w hA e11) rfl rfl (lb rfl) rfl rfl ?_
            obtain ⟨r24, e23, hvK26⟩ := bindS hvK26
            refine DOps.c0 hT hA { tk := [31] } rfl (by (repeat (cbv; simp only [c10, c13])); first | done | cbv) (R92aw hA e23) rfl rfl (lb rfl) rfl rfl ?_
            refine DOps.cd hT hA { tk := [31] } rfl (by (repeat (cbv; simp only [c10, c13])); first | done | cbv) (by kernel_rfl) ?_
            cases soI hvK26
            exact oNi ⟨rfl, (by first | (cbv; done) | ((repeat (cbv; simp only [c10, c13])); first | done | cbv))⟩
        · rintro _ rfl
          refine nT ?_
          refine AWp.ret ?_
          cases soI h
          exact ⟨rfl, rfl, rfl, lb rfl, _, rfl⟩
  · replace h := cF c6 h
    refine AWp.cdT rfl (by first | rfl | simp only [c6, Bool.not_true, Bool.not_false, cond_true, cond_false]) ?_
    refine AWp.seq ?_
    refine AWp.rg hT hA { tk := [10], nl := [10] } (by (repeat (cbv; simp only [c6])); first | done | cbv) (lb rfl) ?_
    refine nT ?_
    refine AWp.ret ?_
    refine rB ?_
    refine rT ?_
    cases soI h
    exact ⟨rfl, rfl, rfl, lb rfl, _, rfl⟩

theorem R102w {A : Ar} (hA : A = Ar.std) {x1 : Int} {x2 : Int} {x3 : Int} {x4 : Int} {x5 : Int} {x6 : Int} {x7 : List D} {x8 : Int} {x9 : List D} {v19 : List D} (h : R102 A x1 x2 x3 x4 x5 x6 x7 x8 x9 = some v19) : ACall Try.prog 102 [(.d (.int .i64 x1)), (.d (.int .i64 x2)), (.d (.int .i64 x3)), (.d (.int .i64 x4)), (.d (.int .i64 x5)), (.ptr 0 0), (.ptr 1 0)] [(.cells [(.d (.int .i64 x6)), (.d (.list 3 x7))]), (.cells [(.d (.int .i64 x8)), (.own 3 x9)])] (.tuple []) [(.cells [(.d (.int .i64 x6)), (.d (.list 3 x7))]), (.cells [(.d (.int .i64 x8)), (.own 3 v19)])] := by
  unfold R102 at h
  refine ACall.enter hT (fn := Try.f102) Try.func102 rfl (by decide) (by simp [Try.f102]) rfl rfl rfl rfl (lb rfl) ?_
  refine AWp.seq ?_
  refine AWp.rg hT hA { tk := [26] } (by cbv) (lb rfl) ?_
  refine nT ?_
  refine AWp.seq ?_
  refine AWp.region ?_
  obtain ⟨r11, e10, h⟩ := bindS h
  refine AOps.cc hT hA {} (by cbv) (lb rfl) (R89w hA e10) rfl (.inr rfl) rfl rfl rfl (lb rfl) rfl rfl ?_
  refine AOps.cd hT hA {} (by cbv) (lb rfl) ?_
  refine nT ?_
  obtain ⟨v17, hvK18, h⟩ := bindS h
  refine AWp.cutN [] [] 2 (lb rfl) (fun τ => τ = { env := [], heap := [(.cells [(.d (.int .i64 x6)), (.d (.list 3 x7))]), (.cells [(.d (.int .i64 x8)), (.own 3 v17)])], n := 38 }) ?_ ?_
  · skip
    rcases tf r11 with c12 | c12
    · replace hvK18 := cT c12 hvK18
      refine AWp.cdF rfl (by first | rfl | simp only [c12, Bool.not_true, Bool.not_false, cond_true, cond_false]) ?_
      refine AWp.skip ?_
      cases soI hvK18
      exact oNi ⟨rfl, (by first | (cbv; done) | ((repeat (cbv; simp only [c12])); first | done | cbv))⟩
    · replace hvK18 := cF c12 hvK18
      refine AWp.cdT rfl (by first | rfl | simp only [c12, Bool.not_true, Bool.not_false, cond_true, cond_false]) ?_
      obtain ⟨l13, e14, hvK18⟩ := bindS hvK18
      obtain ⟨f15, f16⟩ := apI e14
      refine AWp.rg hT hA { tk := [33, 36] } (by (repeat (cbv; simp only [c12, f15, f16])); first | done | cbv) (lb rfl) ?_
      cases soI hvK18
      exact oNi ⟨rfl, (by first | (cbv; done) | ((repeat (cbv; simp only [c12])); first | done | cbv))⟩
  · rintro _ rfl
    cases soI h
    exact ⟨rfl, rfl, rfl, lb rfl, _, rfl⟩

theorem R103w {A : Ar} (hA : A = Ar.std) {x1 : List D} (h : R103 A x1 = some ()) : ACall Try.prog 103 [(.d (.list 3 x1)), (.func 104 [] [])] [] (.tuple []) [] := ACall.sortNone Try.sort103 rfl (lenZ hA (ckI h)) rfl

theorem R113w {A : Ar} (hA : A = Ar.std) {x1 : List D} {v17 : Int} (h : R113 A x1 = some v17) : ACall Try.prog 113 [(.d (.list 1 x1))] [] (.d (.int .i64 v17)) [] := by
  unfold R113 at h
  refine ACall.enter hT (fn := Try.f113) Try.func113 rfl (by decide) (by simp [Try.f113]) rfl rfl rfl rfl (lb rfl) ?_
  refine AWp.seq ?_
  refine AWp.rg hT hA {} (by cbv) (lb rfl) ?_
  refine nT ?_
  refine AWp.seq ?_
  refine AWp.rg hT hA {} (by cbv) (lb rfl) ?_
  refine nT ?_
  refine AWp.seq ?_
  refine AWp.seq ?_
  refine AWp.rg hT hA {} (by cbv) (lb rfl) ?_
  refine nT ?_
  refine AWp.block ?_
  obtain ⟨xK16, hxK16, K16, hK16, hkK16⟩ := bindK h
  refine AWp.cutX 0 [3] [] 0 (lb rfl) (fun τ => K16 (.inl ()) = some v17 ∧ τ = { env := [(3, (.d (.int .i64 0)))], heap := [], n := 18 }) ?_ ?_
  · skip
    refine AWp.iter hxK16 [3, 6, 7, 8] [] 0 (lb rfl) (fun v8 => { env := [(3, (.d (.int .i64 0))), (6, (.d (.list 1 x1))), (7, (.d (.int .i64 (A.len x1)))), (8, (.d (.int .i64 v8)))], heap := [], n := 18 }) ⟨rfl, (by cbv)⟩ ?_
    rintro v8 eK16 hsK16
    dsimp only [R113L0] at hsK16
    refine AWp.seq ?_
    refine AWp.rg hT hA {} (by cbv) (lb rfl) ?_
    refine nT ?_
    refine AWp.seq ?_
    rcases tf (A.zlt v8 (A.len x1)) with c9 | c9
    · replace hsK16 := cT c9 hsK16
      refine AWp.cdT rfl (by first | rfl | simp only [c9, Bool.not_true, Bool.not_false, cond_true, cond_false]) ?_
      refine AWp.skip ?_
      refine nT ?_
      refine AWp.seq ?_
      refine AWp.block ?_
      refine AWp.seq ?_
      obtain ⟨a10, e11, hsK16⟩ := bindS hsK16
      obtain ⟨f12, f13⟩ := gtI e11
      refine AWp.rg hT hA { tk := [11] } (by (repeat (cbv; simp only [c9, f12, f13])); first | done | cbv) (lb rfl) ?_
      refine nT ?_
      refine AWp.seq ?_
      refine AWp.rg hT hA {} (by (repeat (cbv; simp only [c9])); first | done | cbv) (lb rfl) ?_
      refine nT ?_
      rcases tf (A.zeq a10 0) with c14 | c14
      · replace hsK16 := cT c14 hsK16
        refine AWp.cdF rfl (by first | rfl | simp only [c9, c14, Bool.not_true, Bool.not_false, cond_true, cond_false]) ?_
        refine AWp.skip ?_
        refine nB ?_
        refine nT ?_
        refine AWp.rg hT hA {} (by (repeat (cbv; simp only [c9, c14])); first | done | cbv) (lb rfl) ?_
        exact nT ⟨_, (soI hsK16).symm, rfl, (by first | (cbv; done) | ((repeat (cbv; simp only [c9, c14])); first | done | cbv))⟩
      · replace hsK16 := cF c14 hsK16
        refine AWp.cdT rfl (by first | rfl | simp only [c9, c14, Bool.not_true, Bool.not_false, cond_true, cond_false]) ?_
        refine AWp.seq ?_
        refine AWp.rg hT hA { tk := [5, 15] } (by (repeat (cbv; simp only [c9, c14])); first | done | cbv) (lb rfl) ?_
        refine nT ?_
        refine AWp.ret ?_
        refine rB ?_
        refine rT ?_
        refine rT ?_
        refine exL hsK16 fun hx => ?_
        subst hx
        refine oxR ?_
        replace hkK16 := (eR (hK16 _ hkK16))
        refine rB ?_
        refine rT ?_
        cases soI hkK16
        exact ⟨rfl, rfl, rfl, lb rfl, _, rfl⟩
    · replace hsK16 := cF c9 hsK16
      refine AWp.cdF rfl (by first | rfl | simp only [c9, Bool.not_true, Bool.not_false, cond_true, cond_false]) ?_
      refine AWp.exit ?_
      refine xT ?_
      refine xT ?_
      refine exL hsK16 fun hx => ?_
      subst hx
      exact oxI ⟨rfl, hkK16, (by first | (cbv; done) | ((repeat (cbv; simp only [c9])); first | done | cbv))⟩
  · rintro _ ⟨hkK16, rfl⟩
    have h := (eL (hK16 _ hkK16))
    refine xB ?_
    refine nT ?_
    refine AWp.seq ?_
    refine AWp.rg hT hA { tk := [3, 17] } (by cbv) (lb rfl) ?_
    refine nT ?_
    refine AWp.ret ?_
    cases soI h
    exact ⟨rfl, rfl, rfl, lb rfl, _, rfl⟩

theorem R104w {A : Ar} (hA : A = Ar.std) {x1 : Int} {x2 : Int} {x3 : Int} {x4 : Int} {x5 : Int} {x6 : Int} {v15 : Int} (h : R104 A x1 x2 x3 x4 x5 x6 = some v15) : ACall Try.prog 104 [(.d (.agg [(.int .i64 x1), (.int .i64 x2), (.int .i64 x3)])), (.d (.agg [(.int .i64 x4), (.int .i64 x5), (.int .i64 x6)]))] [] (.d (.int .i64 v15)) [] := by
  unfold R104 at h
  refine ACall.enter hT (fn := Try.f104) Try.func104 rfl (by decide) (by simp [Try.f104]) rfl rfl rfl rfl (lb rfl) ?_
  refine AWp.seq ?_
  refine AWp.rg hT hA {} (by cbv) (lb rfl) ?_
  refine nT ?_
  refine AWp.seq ?_
  refine AWp.regionDraw rfl (lb rfl) ?_
  obtain ⟨r8, e7, h⟩ := bindS h
  refine DOps.c0 hT hA { tk := [21] } rfl (by cbv) (R114w hA e7) rfl rfl (lb rfl) rfl rfl ?_
  obtain ⟨r10, e9, h⟩ := bindS h
  refine DOps.c0 hT hA { tk := [21] } rfl (by cbv) (R114w hA e9) rfl rfl (lb rfl) rfl rfl ?_
  obtain ⟨r12, e11, h⟩ := bindS h
  refine DOps.c0 hT hA { tk := [21] } rfl (by cbv) (R114w hA e11) rfl rfl (lb rfl) rfl rfl ?_
  obtain ⟨r14, e13, h⟩ := bindS h
  refine DOps.c0 hT hA { tk := [21] } rfl (by cbv) (R113w hA e13) rfl rfl (lb rfl) rfl rfl ?_
  refine DOps.cd hT hA { tk := [21] } rfl (by cbv) (by kernel_rfl) ?_
  refine nT ?_
  refine AWp.ret ?_
  cases soI h
  exact ⟨rfl, rfl, rfl, lb rfl, _, rfl⟩

theorem R103aw {A : Ar} (hA : A = Ar.std) {x1 : Int} {x2 : Int} {x3 : Int} {x4 : Int} {x5 : Int} {x6 : List D} {r : List D} (h : R103a A x1 x2 x3 x4 x5 x6 = some r) : ACall Try.prog 103 [(.mref 2 3 x1 x2), (.func 104 [] [])] [.dead, (.cells [(.d (.int .i64 x3)), (.mref 2 3 x4 x5)]), (.arr 3 x6)] (.tuple []) [.dead, (.cells [(.d (.int .i64 x3)), (.mref 2 3 x4 x5)]), (.arr 3 r)] :=
  ACall.sortAgg Try.sort103 rfl Try.isAgg66 Try.sizeOf66 (c := (cG (lc (cI .i64) (lc (cI .i64) (l1 (cI .i64)))))) (fun ⟨a0, a1, a2⟩ => ⟨_, rfl, rfl⟩) (g := 104) (caps := []) rfl (fun ⟨a0, a1, a2⟩ ⟨b0, b1, b2⟩ _ h => R104w hA h) rfl rfl h (i := 2) rfl rfl

theorem R56w {A : Ar} (hA : A = Ar.std) {x1 : Int} {x2 : List D} {x3 : Int} {x4 : List D} {v192 : Int} {v193 : List D} {v194 : Int} (h : R56 A x1 x2 x3 x4 = some (v192, v193, v194)) : ACall Try.prog 56 [(.d (.agg [(.int .i64 x1), (.list 3 x2)])), (.d (.agg [(.int .i64 x3), (.list 3 x4)]))] [] (.tuple [(.d (.agg [(.int .i64 v192), (.list 3 v193)])), (.d (.int .i64 v194))]) [] := by
  unfold R56 at h
  refine ACall.enterR hT (fn := Try.f56) Try.func56 rfl (by decide) (by simp [Try.f56]) rfl rfl rfl rfl rfl ?_
  refine AWpR.seq ?_
  refine AWpT.of ?_
  refine AWp.rg hT hA { esc := [3] } (by cbv) (lb rfl) ?_
  refine nT ?_
  refine AWpR.seq ?_
  refine AWpT.of ?_
  refine AWp.block ?_
  refine AWp.seq ?_
  obtain ⟨v10, hvK11, h⟩ := bindS h
  refine AWp.cutN [2, 3, 4, 16] [] 1 (lb rfl) (fun τ => τ = { env := [(2, (.lbox [(.d (.int .i64 x1)), (.d (.list 3 x2))])), (3, (.ptr 0 0)), (4, (.lbox [(.d (.int .i64 0)), (.own 3 [])])), (16, (.d (.bool v10)))], heap := [(.cells [(.d (.int .i64 x3)), (.d (.list 3 x4))])], n := 130 }) ?_ ?_
  · skip
    refine AWp.region ?_
    obtain ⟨r6, e5, hvK11⟩ := bindS hvK11
    refine AOps.cc hT hA {} (by cbv) (lb rfl) (R33w hA e5) rfl (.inr rfl) rfl rfl rfl (lb rfl) rfl rfl ?_
    rcases tf r6 with c7 | c7
    · replace hvK11 := cT c7 hvK11
      obtain ⟨r9, e8, hvK11⟩ := bindS hvK11
      refine AOps.cc hT hA {} (by (repeat (cbv; simp only [c7])); first | done | cbv) (lb rfl) (R33w hA e8) rfl (.inr rfl) rfl rfl rfl (lb rfl) rfl rfl ?_
      refine AOps.cd hT hA {} (by (repeat (cbv; simp only [c7])); first | done | cbv) (lb rfl) ?_
      cases soI hvK11
      exact oNi ⟨rfl, (by first | (cbv; done) | ((repeat (cbv; simp only [c7])); first | done | cbv))⟩
    · replace hvK11 := cF c7 hvK11
      refine AOps.cd hT hA {} (by (repeat (cbv; simp only [c7])); first | done | cbv) (lb rfl) ?_
      cases soI hvK11
      exact oNi ⟨rfl, (by first | (cbv; done) | ((repeat (cbv; simp only [c7])); first | done | cbv))⟩
  · rintro _ rfl
    refine nT ?_
    rcases tf v10 with c12 | c12
    · replace h := cT c12 h
      refine AWp.cdT rfl (by first | rfl | simp only [c12, Bool.not_true, Bool.not_false, cond_true, cond_false]) ?_
      refine AWp.seq ?_
      refine AWp.rg hT hA { tk := [25], nl := [25] } (by (repeat (cbv; simp only [c12])); first | done | cbv) (lb rfl) ?_
      refine nT ?_
      refine AWp.ret ?_
      refine rB ?_
      refine rT ?_
      cases soI h
      exact ⟨rfl, rfl, rfl, lb rfl, _, rfl⟩
    · replace h := cF c12 h
      refine AWp.cdF rfl (by first | rfl | simp only [c12, Bool.not_true, Bool.not_false, cond_true, cond_false]) ?_
      refine AWp.seq ?_
      refine AWp.rg hT hA {} (by (repeat (cbv; simp only [c12])); first | done | cbv) (lb rfl) ?_
      refine nT ?_
      rcases tf (A.zlt 6 (A.wrp .i64 (A.zmul x1 x3))) with c13 | c13
      · replace h := cT c13 h
        refine AWp.cdT rfl (by first | rfl | simp only [c12, c13, Bool.not_true, Bool.not_false, cond_true, cond_false]) ?_
        refine AWp.seq ?_
        refine AWp.rg hT hA { tk := [33], nl := [33] } (by (repeat (cbv; simp only [c12, c13])); first | done | cbv) (lb rfl) ?_
        refine nT ?_
        refine AWp.ret ?_
        refine rB ?_
        refine rT ?_
        cases soI h
        exact ⟨rfl, rfl, rfl, lb rfl, _, rfl⟩
      · replace h := cF c13 h
        refine AWp.cdF rfl (by first | rfl | simp only [c12, c13, Bool.not_true, Bool.not_false, cond_true, cond_false]) ?_
        refine AWp.skip ?_
        refine nB ?_
        refine nT ?_
        refine AWpR.seq ?_
        refine AWpT.of ?_
        refine AWp.rg hT hA { tk := [39], esc := [6], nl := [39] } (by (repeat (cbv; simp only [c12, c13])); first | done | cbv) (lb rfl) ?_
        refine nT ?_
        refine AWpR.seq ?_
        refine AWpT.of ?_
        refine AWp.rg hT hA {} (by (repeat (cbv; simp only [c12, c13])); first | done | cbv) (lb rfl) ?_
        refine nT ?_
        refine AWpR.seq ?_
        refine AWpT.of ?_
        refine AWp.seq ?_
        refine AWp.rg hT hA {} (by (repeat (cbv; simp only [c12, c13])); first | done | cbv) (lb rfl) ?_
        refine nT ?_
        refine AWp.block ?_
        obtain ⟨xK131, hxK131, K131, hK131, hkK131⟩ := bindK h
        refine AWp.cutX 1 [2, 3, 4, 6, 7] [] 2 (lb rfl) (fun τ => ∃ v130, K131 v130 = some (v192, v193, v194) ∧ τ = { env := [(2, (.lbox [(.d (.int .i64 x1)), (.d (.list 3 x2))])), (3, (.ptr 0 0)), (4, (.lbox [(.d (.int .i64 0)), (.own 3 [])])), (6, (.ptr 1 0)), (7, (.func 102 [] [(.ptr 0 0), (.ptr 1 0)]))], heap := [(.cells [(.d (.int .i64 x3)), (.d (.list 3 x4))]), (.cells [(.d (.int .i64 (A.wrp .i64 (A.zmul x1 x3)))), (.own 3 v130)])], n := 130 }) ?_ ?_
        · skip
          refine AWp.iter hxK131 [2, 3, 4, 6, 7, 42, 43, 44] [] 2 (lb rfl) (fun (v71, v72) => { env := [(2, (.lbox [(.d (.int .i64 x1)), (.d (.list 3 x2))])), (3, (.ptr 0 0)), (4, (.lbox [(.d (.int .i64 0)), (.own 3 [])])), (6, (.ptr 1 0)), (7, (.func 102 [] [(.ptr 0 0), (.ptr 1 0)])), (42, (.d (.list 3 x2))), (43, (.d (.int .i64 (A.len x2)))), (44, (.d (.int .i64 v71)))], heap := [(.cells [(.d (.int .i64 x3)), (.d (.list 3 x4))]), (.cells [(.d (.int .i64 (A.wrp .i64 (A.zmul x1 x3)))), (.own 3 v72)])], n := 130 }) ⟨rfl, (by first | (cbv; done) | ((repeat (cbv; simp only [c12, c13])); first | done | cbv))⟩ ?_
          rintro ⟨v71, v72⟩ eK131 hsK131
          dsimp only [R56L2] at hsK131
          refine AWp.seq ?_
          refine AWp.rg hT hA {} (by cbv) (lb rfl) ?_
          refine nT ?_
          refine AWp.seq ?_
          rcases tf (A.zlt v71 (A.len x2)) with c73 | c73
          · replace hsK131 := cT c73 hsK131
            refine AWp.cdT rfl (by first | rfl | simp only [c73, Bool.not_true, Bool.not_false, cond_true, cond_false]) ?_
            refine AWp.skip ?_
            refine nT ?_
            refine AWp.seq ?_
            refine AWp.block ?_
            refine AWp.seq ?_
            obtain ⟨⟨a74, a75, a76⟩, e77, hsK131⟩ := bindS hsK131
            obtain ⟨f78, f79⟩ := gtI e77
            refine AWp.rg hT hA { tk := [47] } (by (repeat (cbv; simp only [c73, f78, f79])); first | done | cbv) (lb rfl) ?_
            refine nT ?_
            refine AWp.seq ?_
            refine AWp.seq ?_
            refine AWp.rg hT hA {} (by (repeat (cbv; simp only [c73])); first | done | cbv) (lb rfl) ?_
            refine nT ?_
            refine AWp.block ?_
            obtain ⟨xK113, hxK113, K113, hK113, hkK113⟩ := bindK hsK131
            refine AWp.cutX 3 [2, 3, 4, 6, 7, 9, 42, 43, 44] [] 2 (lb rfl) (fun τ => ∃ v112, K113 v112 = some eK131 ∧ τ = { env := [(2, (.lbox [(.d (.int .i64 x1)), (.d (.list 3 x2))])), (3, (.ptr 0 0)), (4, (.lbox [(.d (.int .i64 0)), (.own 3 [])])), (6, (.ptr 1 0)), (7, (.func 102 [] [(.ptr 0 0), (.ptr 1 0)])), (9, (.lbox [(.d (.int .i64 a74)), (.d (.int .i64 a75)), (.d (.int .i64 a76))])), (42, (.d (.list 3 x2))), (43, (.d (.int .i64 (A.len x2)))), (44, (.d (.int .i64 v71)))], heap := [(.cells [(.d (.int .i64 x3)), (.d (.list 3 x4))]), (.cells [(.d (.int .i64 (A.wrp .i64 (A.zmul x1 x3)))), (.own 3 v112)])], n := 130 }) ?_ ?_
            · skip
              refine AWp.iter hxK113 [2, 3, 4, 6, 7, 9, 42, 43, 44, 49, 50, 51] [] 2 (lb rfl) (fun (v95, v96) => { env := [(2, (.lbox [(.d (.int .i64 x1)), (.d (.list 3 x2))])), (3, (.ptr 0 0)), (4, (.lbox [(.d (.int .i64 0)), (.own 3 [])])), (6, (.ptr 1 0)), (7, (.func 102 [] [(.ptr 0 0), (.ptr 1 0)])), (9, (.lbox [(.d (.int .i64 a74)), (.d (.int .i64 a75)), (.d (.int .i64 a76))])), (42, (.d (.list 3 x2))), (43, (.d (.int .i64 (A.len x2)))), (44, (.d (.int .i64 v71))), (49, (.d (.list 3 x4))), (50, (.d (.int .i64 (A.len x4)))), (51, (.d (.int .i64 v95)))], heap := [(.cells [(.d (.int .i64 x3)), (.d (.list 3 x4))]), (.cells [(.d (.int .i64 (A.wrp .i64 (A.zmul x1 x3)))), (.own 3 v96)])], n := 130 }) ⟨rfl, (by first | (cbv; done) | ((repeat (cbv; simp only [c73])); first | done | cbv))⟩ ?_
              rintro ⟨v95, v96⟩ eK113 hsK113
              dsimp only [R56L0] at hsK113
              refine AWp.seq ?_
              refine AWp.rg hT hA {} (by cbv) (lb rfl) ?_
              refine nT ?_
              refine AWp.seq ?_
              rcases tf (A.zlt v95 (A.len x4)) with c97 | c97
              · replace hsK113 := cT c97 hsK113
                refine AWp.cdT rfl (by first | rfl | simp only [c97, Bool.not_true, Bool.not_false, cond_true, cond_false]) ?_
                refine AWp.skip ?_
                refine nT ?_
                refine AWp.seq ?_
                refine AWp.block ?_
                refine AWp.seq ?_
                obtain ⟨⟨a98, a99, a100⟩, e101, hsK113⟩ := bindS hsK113
                obtain ⟨f102, f103⟩ := gtI e101
                refine AWp.rg hT hA { tk := [54] } (by (repeat (cbv; simp only [c97, f102, f103])); first | done | cbv) (lb rfl) ?_
                refine nT ?_
                refine AWp.seq ?_
                obtain ⟨v105, hvK106, hsK113⟩ := bindS hsK113
                refine AWp.cutN [2, 3, 4, 6, 7, 9, 11, 42, 43, 44, 49, 50, 51, 64] [] 2 (lb rfl) (fun τ => τ = { env := [(2, (.lbox [(.d (.int .i64 x1)), (.d (.list 3 x2))])), (3, (.ptr 0 0)), (4, (.lbox [(.d (.int .i64 0)), (.own 3 [])])), (6, (.ptr 1 0)), (7, (.func 102 [] [(.ptr 0 0), (.ptr 1 0)])), (9, (.lbox [(.d (.int .i64 a74)), (.d (.int .i64 a75)), (.d (.int .i64 a76))])), (11, (.lbox [(.d (.int .i64 a98)), (.d (.int .i64 a99)), (.d (.int .i64 a100))])), (42, (.d (.list 3 x2))), (43, (.d (.int .i64 (A.len x2)))), (44, (.d (.int .i64 v71))), (49, (.d (.list 3 x4))), (50, (.d (.int .i64 (A.len x4)))), (51, (.d (.int .i64 v95))), (64, (.d (.bool v105)))], heap := [(.cells [(.d (.int .i64 x3)), (.d (.list 3 x4))]), (.cells [(.d (.int .i64 (A.wrp .i64 (A.zmul x1 x3)))), (.own 3 v96)])], n := 130 }) ?_ ?_
                · skip
                  rcases tf (A.zeq a75 a99) with c104 | c104
                  · replace hvK106 := cT c104 hvK106
                    refine AWp.rg hT hA {} (by (repeat (cbv; simp only [c97, c104])); first | done | cbv) (lb rfl) ?_
                    cases soI hvK106
                    exact oNi ⟨rfl, (by first | (cbv; done) | ((repeat (cbv; simp only [c97, c104])); first | done | cbv))⟩
                  · replace hvK106 := cF c104 hvK106
                    refine AWp.rg hT hA {} (by (repeat (cbv; simp only [c97, c104])); first | done | cbv) (lb rfl) ?_
                    cases soI hvK106
                    exact oNi ⟨rfl, (by first | (cbv; done) | ((repeat (cbv; simp only [c97, c104])); first | done | cbv))⟩
                · rintro _ rfl
                  refine nT ?_
                  obtain ⟨v110, hvK111, hsK113⟩ := bindS hsK113
                  refine AWp.cutN [2, 3, 4, 6, 7, 9, 42, 43, 44, 49, 50, 51] [] 2 (lb rfl) (fun τ => τ = { env := [(2, (.lbox [(.d (.int .i64 x1)), (.d (.list 3 x2))])), (3, (.ptr 0 0)), (4, (.lbox [(.d (.int .i64 0)), (.own 3 [])])), (6, (.ptr 1 0)), (7, (.func 102 [] [(.ptr 0 0), (.ptr 1 0)])), (9, (.lbox [(.d (.int .i64 a74)), (.d (.int .i64 a75)), (.d (.int .i64 a76))])), (42, (.d (.list 3 x2))), (43, (.d (.int .i64 (A.len x2)))), (44, (.d (.int .i64 v71))), (49, (.d (.list 3 x4))), (50, (.d (.int .i64 (A.len x4)))), (51, (.d (.int .i64 v95)))], heap := [(.cells [(.d (.int .i64 x3)), (.d (.list 3 x4))]), (.cells [(.d (.int .i64 (A.wrp .i64 (A.zmul x1 x3)))), (.own 3 v110)])], n := 130 }) ?_ ?_
                  · skip
                    rcases tf v105 with c107 | c107
                    · replace hvK111 := cT c107 hvK111
                      refine AWp.cdT rfl (by first | rfl | simp only [c107, Bool.not_true, Bool.not_false, cond_true, cond_false]) ?_
                      refine AWp.region ?_
                      obtain ⟨r109, e108, hvK111⟩ := bindS hvK111
                      refine AOps.cc hT hA {} (by (repeat (cbv; simp only [c107])); first | done | cbv) (lb rfl) (R102w hA e108) rfl (.inl rfl) rfl rfl rfl (lb rfl) rfl rfl ?_
                      refine AOps.cd hT hA {} (by (repeat (cbv; simp only [c107])); first | done | cbv) (lb rfl) ?_
                      cases soI hvK111
                      exact oNi ⟨rfl, (by first | (cbv; done) | ((repeat (cbv; simp only [c107])); first | done | cbv))⟩
                    · replace hvK111 := cF c107 hvK111
                      refine AWp.cdF rfl (by first | rfl | simp only [c107, Bool.not_true, Bool.not_false, cond_true, cond_false]) ?_
                      refine AWp.skip ?_
                      cases soI hvK111
                      exact oNi ⟨rfl, (by first | (cbv; done) | ((repeat (cbv; simp only [c107])); first | done | cbv))⟩
                  · rintro _ rfl
                    refine nB ?_
                    refine nT ?_
                    refine AWp.rg hT hA {} (by cbv) (lb rfl) ?_
                    exact nT ⟨_, (soI hsK113).symm, rfl, (by cbv)⟩
              · replace hsK113 := cF c97 hsK113
                refine AWp.cdF rfl (by first | rfl | simp only [c97, Bool.not_true, Bool.not_false, cond_true, cond_false]) ?_
                refine AWp.exit ?_
                refine xT ?_
                refine xT ?_
                refine exL hsK113 fun hx => ?_
                subst hx
                exact oxI ⟨rfl, _, hkK113, (by first | (cbv; done) | ((repeat (cbv; simp only [c97])); first | done | cbv))⟩
            · rintro _ ⟨v112, hkK113, rfl⟩
              have hsK131 := (hK113 _ hkK113)
              refine xB ?_
              refine nT ?_
              refine AWp.seq ?_
              refine AWp.rg hT hA {} (by cbv) (lb rfl) ?_
              refine nT ?_
              refine AWp.block ?_
              obtain ⟨xK129, hxK129, K129, hK129, hkK129⟩ := bindK hsK131
              refine AWp.cutX 5 [2, 3, 4, 6, 7, 42, 43, 44] [] 2 (lb rfl) (fun τ => ∃ v128, K129 v128 = some eK131 ∧ τ = { env := [(2, (.lbox [(.d (.int .i64 x1)), (.d (.list 3 x2))])), (3, (.ptr 0 0)), (4, (.lbox [(.d (.int .i64 0)), (.own 3 [])])), (6, (.ptr 1 0)), (7, (.func 102 [] [(.ptr 0 0), (.ptr 1 0)])), (42, (.d (.list 3 x2))), (43, (.d (.int .i64 (A.len x2)))), (44, (.d (.int .i64 v71)))], heap := [(.cells [(.d (.int .i64 x3)), (.d (.list 3 x4))]), (.cells [(.d (.int .i64 (A.wrp .i64 (A.zmul x1 x3)))), (.own 3 v128)])], n := 130 }) ?_ ?_
              · skip
                refine AWp.iter hxK129 [2, 3, 4, 6, 7, 9, 42, 43, 44, 79, 80] [] 2 (lb rfl) (fun (v120, v121) => { env := [(2, (.lbox [(.d (.int .i64 x1)), (.d (.list 3 x2))])), (3, (.ptr 0 0)), (4, (.lbox [(.d (.int .i64 0)), (.own 3 [])])), (6, (.ptr 1 0)), (7, (.func 102 [] [(.ptr 0 0), (.ptr 1 0)])), (9, (.lbox [(.d (.int .i64 a74)), (.d (.int .i64 a75)), (.d (.int .i64 a76))])), (42, (.d (.list 3 x2))), (43, (.d (.int .i64 (A.len x2)))), (44, (.d (.int .i64 v71))), (79, (.d (.int .i64 x3))), (80, (.d (.int .i64 v120)))], heap := [(.cells [(.d (.int .i64 x3)), (.d (.list 3 x4))]), (.cells [(.d (.int .i64 (A.wrp .i64 (A.zmul x1 x3)))), (.own 3 v121)])], n := 130 }) ⟨rfl, (by cbv)⟩ ?_
                rintro ⟨v120, v121⟩ eK129 hsK129
                dsimp only [R56L1] at hsK129
                refine AWp.seq ?_
                refine AWp.rg hT hA {} (by cbv) (lb rfl) ?_
                refine nT ?_
                refine AWp.seq ?_
                rcases tf (A.zlt v120 x3) with c122 | c122
                · replace hsK129 := cT c122 hsK129
                  refine AWp.cdT rfl (by first | rfl | simp only [c122, Bool.not_true, Bool.not_false, cond_true, cond_false]) ?_
                  refine AWp.skip ?_
                  refine nT ?_
                  refine AWp.seq ?_
                  refine AWp.block ?_
                  refine AWp.seq ?_
                  refine AWp.rg hT hA {} (by (repeat (cbv; simp only [c122])); first | done | cbv) (lb rfl) ?_
                  refine nT ?_
                  refine AWp.seq ?_
                  refine AWp.rg hT hA {} (by (repeat (cbv; simp only [c122])); first | done | cbv) (lb rfl) ?_
                  refine nT ?_
                  obtain ⟨v126, hvK127, hsK129⟩ := bindS hsK129
                  refine AWp.cutN [2, 3, 4, 6, 7, 9, 42, 43, 44, 79, 80] [] 2 (lb rfl) (fun τ => τ = { env := [(2, (.lbox [(.d (.int .i64 x1)), (.d (.list 3 x2))])), (3, (.ptr 0 0)), (4, (.lbox [(.d (.int .i64 0)), (.own 3 [])])), (6, (.ptr 1 0)), (7, (.func 102 [] [(.ptr 0 0), (.ptr 1 0)])), (9, (.lbox [(.d (.int .i64 a74)), (.d (.int .i64 a75)), (.d (.int .i64 a76))])), (42, (.d (.list 3 x2))), (43, (.d (.int .i64 (A.len x2)))), (44, (.d (.int .i64 v71))), (79, (.d (.int .i64 x3))), (80, (.d (.int .i64 v120)))], heap := [(.cells [(.d (.int .i64 x3)), (.d (.list 3 x4))]), (.cells [(.d (.int .i64 (A.wrp .i64 (A.zmul x1 x3)))), (.own 3 v126)])], n := 130 }) ?_ ?_
                  · skip
                    rcases tf (A.zeq a75 0) with c123 | c123
                    · replace hvK127 := cT c123 hvK127
                      refine AWp.cdT rfl (by first | rfl | simp only [c122, c123, Bool.not_true, Bool.not_false, cond_true, cond_false]) ?_
                      refine AWp.region ?_
                      obtain ⟨r125, e124, hvK127⟩ := bindS hvK127
                      refine AOps.cc hT hA {} (by (repeat (cbv; simp only [c122, c123])); first | done | cbv) (lb rfl) (R102w hA e124) rfl (.inl rfl) rfl rfl rfl (lb rfl) rfl rfl ?_
                      refine AOps.cd hT hA {} (by (repeat (cbv; simp only [c122, c123])); first | done | cbv) (lb rfl) ?_
                      cases soI hvK127
                      exact oNi ⟨rfl, (by first | (cbv; done) | ((repeat (cbv; simp only [c122, c123])); first | done | cbv))⟩
                    · replace hvK127 := cF c123 hvK127
                      refine AWp.cdF rfl (by first | rfl | simp only [c122, c123, Bool.not_true, Bool.not_false, cond_true, cond_false]) ?_
                      refine AWp.skip ?_
                      cases soI hvK127
                      exact oNi ⟨rfl, (by first | (cbv; done) | ((repeat (cbv; simp only [c122, c123])); first | done | cbv))⟩
                  · rintro _ rfl
                    refine nB ?_
                    refine nT ?_
                    refine AWp.rg hT hA {} (by cbv) (lb rfl) ?_
                    exact nT ⟨_, (soI hsK129).symm, rfl, (by cbv)⟩
                · replace hsK129 := cF c122 hsK129
                  refine AWp.cdF rfl (by first | rfl | simp only [c122, Bool.not_true, Bool.not_false, cond_true, cond_false]) ?_
                  refine AWp.exit ?_
                  refine xT ?_
                  refine xT ?_
                  refine exL hsK129 fun hx => ?_
                  subst hx
                  exact oxI ⟨rfl, _, hkK129, (by first | (cbv; done) | ((repeat (cbv; simp only [c122])); first | done | cbv))⟩
              · rintro _ ⟨v128, hkK129, rfl⟩
                have hsK131 := (hK129 _ hkK129)
                refine xB ?_
                refine nB ?_
                refine nT ?_
                refine AWp.rg hT hA {} (by cbv) (lb rfl) ?_
                exact nT ⟨_, (soI hsK131).symm, rfl, (by cbv)⟩
          · replace hsK131 := cF c73 hsK131
            refine AWp.cdF rfl (by first | rfl | simp only [c73, Bool.not_true, Bool.not_false, cond_true, cond_false]) ?_
            refine AWp.exit ?_
            refine xT ?_
            refine xT ?_
            refine exL hsK131 fun hx => ?_
            subst hx
            exact oxI ⟨rfl, _, hkK131, (by first | (cbv; done) | ((repeat (cbv; simp only [c73])); first | done | cbv))⟩
        · rintro _ ⟨v130, hkK131, rfl⟩
          have h := (hK131 _ hkK131)
          refine xB ?_
          refine nT ?_
          refine AWpR.seq ?_
          refine AWpT.of ?_
          refine AWp.seq ?_
          refine AWp.rg hT hA {} (by cbv) (lb rfl) ?_
          refine nT ?_
          refine AWp.block ?_
          obtain ⟨xK181, hxK181, K181, hK181, hkK181⟩ := bindK h
          refine AWp.cutX 7 [4, 6] [] 2 (lb rfl) (fun τ => ∃ v180, K181 v180 = some (v192, v193, v194) ∧ τ = { env := [(4, (.lbox [(.d (.int .i64 0)), (.own 3 [])])), (6, (.ptr 1 0))], heap := [(.cells [(.d (.int .i64 x3)), (.d (.list 3 x4))]), (.cells [(.d (.int .i64 (A.wrp .i64 (A.zmul x1 x3)))), (.own 3 v180)])], n := 130 }) ?_ ?_
          · skip
            refine AWp.iter hxK181 [2, 4, 6, 7, 97, 98, 99] [] 2 (lb rfl) (fun (v155, v156) => { env := [(2, (.lbox [(.d (.int .i64 x1)), (.d (.list 3 x2))])), (4, (.lbox [(.d (.int .i64 0)), (.own 3 [])])), (6, (.ptr 1 0)), (7, (.func 102 [] [(.ptr 0 0), (.ptr 1 0)])), (97, (.d (.list 3 x4))), (98, (.d (.int .i64 (A.len x4)))), (99, (.d (.int .i64 v155)))], heap := [(.cells [(.d (.int .i64 x3)), (.d (.list 3 x4))]), (.cells [(.d (.int .i64 (A.wrp .i64 (A.zmul x1 x3)))), (.own 3 v156)])], n := 130 }) ⟨rfl, (by cbv)⟩ ?_
            rintro ⟨v155, v156⟩ eK181 hsK181
            dsimp only [R56L4] at hsK181
            refine AWp.seq ?_
            refine AWp.rg hT hA {} (by cbv) (lb rfl) ?_
            refine nT ?_
            refine AWp.seq ?_
            rcases tf (A.zlt v155 (A.len x4)) with c157 | c157
            · replace hsK181 := cT c157 hsK181
              refine AWp.cdT rfl (by first | rfl | simp only [c157, Bool.not_true, Bool.not_false, cond_true, cond_false]) ?_
              refine AWp.skip ?_
              refine nT ?_
              refine AWp.seq ?_
              refine AWp.block ?_
              refine AWp.seq ?_
              obtain ⟨⟨a158, a159, a160⟩, e161, hsK181⟩ := bindS hsK181
              obtain ⟨f162, f163⟩ := gtI e161
              refine AWp.rg hT hA { tk := [102] } (by (repeat (cbv; simp only [c157, f162, f163])); first | done | cbv) (lb rfl) ?_
              refine nT ?_
              refine AWp.seq ?_
              refine AWp.rg hT hA {} (by (repeat (cbv; simp only [c157])); first | done | cbv) (lb rfl) ?_
              refine nT ?_
              refine AWp.block ?_
              obtain ⟨xK179, hxK179, K179, hK179, hkK179⟩ := bindK hsK181
              refine AWp.cutX 9 [2, 4, 6, 7, 97, 98, 99] [] 2 (lb rfl) (fun τ => ∃ v178, K179 v178 = some eK181 ∧ τ = { env := [(2, (.lbox [(.d (.int .i64 x1)), (.d (.list 3 x2))])), (4, (.lbox [(.d (.int .i64 0)), (.own 3 [])])), (6, (.ptr 1 0)), (7, (.func 102 [] [(.ptr 0 0), (.ptr 1 0)])), (97, (.d (.list 3 x4))), (98, (.d (.int .i64 (A.len x4)))), (99, (.d (.int .i64 v155)))], heap := [(.cells [(.d (.int .i64 x3)), (.d (.list 3 x4))]), (.cells [(.d (.int .i64 (A.wrp .i64 (A.zmul x1 x3)))), (.own 3 v178)])], n := 130 }) ?_ ?_
              · skip
                refine AWp.iter hxK179 [2, 4, 6, 7, 14, 97, 98, 99, 104, 105] [] 2 (lb rfl) (fun (v170, v171) => { env := [(2, (.lbox [(.d (.int .i64 x1)), (.d (.list 3 x2))])), (4, (.lbox [(.d (.int .i64 0)), (.own 3 [])])), (6, (.ptr 1 0)), (7, (.func 102 [] [(.ptr 0 0), (.ptr 1 0)])), (14, (.lbox [(.d (.int .i64 a158)), (.d (.int .i64 a159)), (.d (.int .i64 a160))])), (97, (.d (.list 3 x4))), (98, (.d (.int .i64 (A.len x4)))), (99, (.d (.int .i64 v155))), (104, (.d (.int .i64 x1))), (105, (.d (.int .i64 v170)))], heap := [(.cells [(.d (.int .i64 x3)), (.d (.list 3 x4))]), (.cells [(.d (.int .i64 (A.wrp .i64 (A.zmul x1 x3)))), (.own 3 v171)])], n := 130 }) ⟨rfl, (by first | (cbv; done) | ((repeat (cbv; simp only [c157])); first | done | cbv))⟩ ?_
                rintro ⟨v170, v171⟩ eK179 hsK179
                dsimp only [R56L3] at hsK179
                refine AWp.seq ?_
                refine AWp.rg hT hA {} (by cbv) (lb rfl) ?_
                refine nT ?_
                refine AWp.seq ?_
                rcases tf (A.zlt v170 x1) with c172 | c172
                · replace hsK179 := cT c172 hsK179
                  refine AWp.cdT rfl (by first | rfl | simp only [c172, Bool.not_true, Bool.not_false, cond_true, cond_false]) ?_
                  refine AWp.skip ?_
                  refine nT ?_
                  refine AWp.seq ?_
                  refine AWp.block ?_
                  refine AWp.seq ?_
                  refine AWp.rg hT hA {} (by (repeat (cbv; simp only [c172])); first | done | cbv) (lb rfl) ?_
                  refine nT ?_
                  refine AWp.seq ?_
                  refine AWp.rg hT hA {} (by (repeat (cbv; simp only [c172])); first | done | cbv) (lb rfl) ?_
                  refine nT ?_
                  obtain ⟨v176, hvK177, hsK179⟩ := bindS hsK179
                  refine AWp.cutN [2, 4, 6, 7, 14, 97, 98, 99, 104, 105] [] 2 (lb rfl) (fun τ => τ = { env := [(2, (.lbox [(.d (.int .i64 x1)), (.d (.list 3 x2))])), (4, (.lbox [(.d (.int .i64 0)), (.own 3 [])])), (6, (.ptr 1 0)), (7, (.func 102 [] [(.ptr 0 0), (.ptr 1 0)])), (14, (.lbox [(.d (.int .i64 a158)), (.d (.int .i64 a159)), (.d (.int .i64 a160))])), (97, (.d (.list 3 x4))), (98, (.d (.int .i64 (A.len x4)))), (99, (.d (.int .i64 v155))), (104, (.d (.int .i64 x1))), (105, (.d (.int .i64 v170)))], heap := [(.cells [(.d (.int .i64 x3)), (.d (.list 3 x4))]), (.cells [(.d (.int .i64 (A.wrp .i64 (A.zmul x1 x3)))), (.own 3 v176)])], n := 130 }) ?_ ?_
                  · skip
                    rcases tf (A.zeq a159 0) with c173 | c173
                    · replace hvK177 := cT c173 hvK177
                      refine AWp.cdT rfl (by first | rfl | simp only [c172, c173, Bool.not_true, Bool.not_false, cond_true, cond_false]) ?_
                      refine AWp.region ?_
                      obtain ⟨r175, e174, hvK177⟩ := bindS hvK177
                      refine AOps.cc hT hA {} (by (repeat (cbv; simp only [c172, c173])); first | done | cbv) (lb rfl) (R102w hA e174) rfl (.inl rfl) rfl rfl rfl (lb rfl) rfl rfl ?_
                      refine AOps.cd hT hA {} (by (repeat (cbv; simp only [c172, c173])); first | done | cbv) (lb rfl) ?_
                      cases soI hvK177
                      exact oNi ⟨rfl, (by first | (cbv; done) | ((repeat (cbv; simp only [c172, c173])); first | done | cbv))⟩
                    · replace hvK177 := cF c173 hvK177
                      refine AWp.cdF rfl (by first | rfl | simp only [c172, c173, Bool.not_true, Bool.not_false, cond_true, cond_false]) ?_
                      refine AWp.skip ?_
                      cases soI hvK177
                      exact oNi ⟨rfl, (by first | (cbv; done) | ((repeat (cbv; simp only [c172, c173])); first | done | cbv))⟩
                  · rintro _ rfl
                    refine nB ?_
                    refine nT ?_
                    refine AWp.rg hT hA {} (by cbv) (lb rfl) ?_
                    exact nT ⟨_, (soI hsK179).symm, rfl, (by cbv)⟩
                · replace hsK179 := cF c172 hsK179
                  refine AWp.cdF rfl (by first | rfl | simp only [c172, Bool.not_true, Bool.not_false, cond_true, cond_false]) ?_
                  refine AWp.exit ?_
                  refine xT ?_
                  refine xT ?_
                  refine exL hsK179 fun hx => ?_
                  subst hx
                  exact oxI ⟨rfl, _, hkK179, (by first | (cbv; done) | ((repeat (cbv; simp only [c172])); first | done | cbv))⟩
              · rintro _ ⟨v178, hkK179, rfl⟩
                have hsK181 := (hK179 _ hkK179)
                refine xB ?_
                refine nB ?_
                refine nT ?_
                refine AWp.rg hT hA {} (by cbv) (lb rfl) ?_
                exact nT ⟨_, (soI hsK181).symm, rfl, (by cbv)⟩
            · replace hsK181 := cF c157 hsK181
              refine AWp.cdF rfl (by first | rfl | simp only [c157, Bool.not_true, Bool.not_false, cond_true, cond_false]) ?_
              refine AWp.exit ?_
              refine xT ?_
              refine xT ?_
              refine exL hsK181 fun hx => ?_
              subst hx
              exact oxI ⟨rfl, _, hkK181, (by first | (cbv; done) | ((repeat (cbv; simp only [c157])); first | done | cbv))⟩
          · rintro _ ⟨v180, hkK181, rfl⟩
            have h := (hK181 _ hkK181)
            refine xB ?_
            refine nT ?_
            refine AWpR.seq ?_
            refine AWpT.of ?_
            refine AWp.seq ?_
            refine AWp.rg hT hA {} (by cbv) (lb rfl) ?_
            refine nT ?_
            rcases tf (A.zlt 24 (A.len v180)) with c182 | c182
            · replace h := cT c182 h
              refine AWp.cdT rfl (by first | rfl | simp only [c182, Bool.not_true, Bool.not_false, cond_true, cond_false]) ?_
              refine AWp.seq ?_
              refine AWp.rg hT hA { tk := [125], nl := [125] } (by (repeat (cbv; simp only [c182])); first | done | cbv) (lb rfl) ?_
              refine nT ?_
              refine AWp.ret ?_
              refine rT ?_
              cases soI h
              exact ⟨rfl, rfl, rfl, lb rfl, _, rfl⟩
            · replace h := cF c182 h
              refine AWp.cdF rfl (by first | rfl | simp only [c182, Bool.not_true, Bool.not_false, cond_true, cond_false]) ?_
              refine AWp.skip ?_
              refine nT ?_
              refine AWpR.seq2 ?_
              rcases tf (A.zlt 0 (A.len v180)) with c183 | c183
              · replace h := cT c183 h
                obtain ⟨_, e184, h⟩ := bindS h
                refine AWpR.thawC [4, 6] 1 1 rfl rfl (neL hA c183) (ckI e184) (lenL hA) rfl rfl (show AWpR _ _ _ { env := [(4, (.lbox [(.d (.int .i64 0)), (.own 3 [])])), (6, (.ptr 1 0))], heap := [.dead, (.cells [(.d (.int .i64 (A.wrp .i64 (A.zmul x1 x3)))), (.mref 2 3 0 (A.len v180))]), (.arr 3 v180)], n := 130 } from ?_)
                refine AWpR.of ?_
                refine AWpT.of ?_
                refine AWp.region ?_
                obtain ⟨r187, e186, h⟩ := bindS h
                refine AOps.cc hT hA {} (by (repeat (cbv; simp only [c182, c183])); first | done | cbv) (lb rfl) (R103aw hA e186) rfl (.inl rfl) rfl rfl rfl (lb rfl) rfl rfl ?_
                refine AOps.cd hT hA {} (by (repeat (cbv; simp only [c182, c183])); first | done | cbv) (lb rfl) ?_
                refine nT ?_
                refine AWpR.of ?_
                refine AWpT.of ?_
                refine AWp.seq ?_
                obtain ⟨l188, e189, h⟩ := bindS h
                obtain ⟨f190, f191⟩ := fzI hA e189
                refine AWp.freezeC 1 1 rfl rfl rfl f190 f191 ?_
                refine AWp.rg hT hA { tk := [129] } (by (repeat (cbv; simp only [c182, c183])); first | done | cbv) (lb rfl) ?_
                refine nT ?_
                refine AWp.ret ?_
                cases soI h
                exact ⟨rfl, rfl, rfl, lb rfl, _, rfl⟩
              · replace h := cF c183 h
                refine AWpR.of ?_
                refine AWpT.of ?_
                refine AWp.region ?_
                obtain ⟨_, e185, h⟩ := bindS h
                refine AOps.cc hT hA {} (by (repeat (cbv; simp only [c182, c183])); first | done | cbv) (lb rfl) (R103w hA e185) rfl (.inr rfl) rfl rfl rfl (lb rfl) rfl rfl ?_
                refine AOps.cd hT hA {} (by (repeat (cbv; simp only [c182, c183])); first | done | cbv) (lb rfl) ?_
                refine nT ?_
                refine AWpR.of ?_
                refine AWpT.of ?_
                refine AWp.seq ?_
                refine AWp.rg hT hA { tk := [129] } (by (repeat (cbv; simp only [c182, c183])); first | done | cbv) (lb rfl) ?_
                refine nT ?_
                refine AWp.ret ?_
                cases soI h
                exact ⟨rfl, rfl, rfl, lb rfl, _, rfl⟩

theorem R101w {A : Ar} (hA : A = Ar.std) {x1 : List D} {x2 : Int} {x3 : Int} {x4 : Int} {v27 : List D} (h : R101 A x1 x2 x3 x4 = some v27) : ACallO Try.prog 101 [(.own 3 x1), (.d (.agg [(.int .i64 x2), (.int .i64 x3), (.int .i64 x4)]))] [.dead] (.own 3 v27) [.dead] := by
  unfold R101 at h
  refine ACallO.enter hT (fn := Try.f101) (H0 := []) 0 rfl Try.func101 rfl (by decide) (by simp [Try.f101]) rfl rfl rfl rfl (lb rfl) ?_
  refine AWpT.of ?_
  refine AWp.seq ?_
  refine AWp.rg hT hA {} (by cbv) (lb rfl) ?_
  refine nT ?_
  refine AWp.seq ?_
  refine AWp.seq ?_
  refine AWp.rg hT hA {} (by cbv) (lb rfl) ?_
  refine nT ?_
  refine AWp.block ?_
  obtain ⟨xK22, hxK22, K22, hK22, hkK22⟩ := bindK h
  refine AWp.cutX 0 [0, 3] [] 1 (lb rfl) (fun τ => K22 (.inl ()) = some v27 ∧ τ = { env := [(0, (.own 3 x1)), (3, (.lbox [(.d (.int .i64 x2)), (.d (.int .i64 x3)), (.d (.int .i64 x4))]))], heap := [.dead], n := 22 }) ?_ ?_
  · skip
    refine AWp.iter hxK22 [0, 3, 7, 8, 9] [] 1 (lb rfl) (fun v13 => { env := [(0, (.own 3 x1)), (3, (.lbox [(.d (.int .i64 x2)), (.d (.int .i64 x3)), (.d (.int .i64 x4))])), (7, (.d (.list 3 x1))), (8, (.d (.int .i64 (A.len x1)))), (9, (.d (.int .i64 v13)))], heap := [.dead], n := 22 }) ⟨rfl, (by cbv)⟩ ?_
    rintro v13 eK22 hsK22
    dsimp only [R101L0] at hsK22
    refine AWp.seq ?_
    refine AWp.rg hT hA {} (by cbv) (lb rfl) ?_
    refine nT ?_
    refine AWp.seq ?_
    rcases tf (A.zlt v13 (A.len x1)) with c14 | c14
    · replace hsK22 := cT c14 hsK22
      refine AWp.cdT rfl (by first | rfl | simp only [c14, Bool.not_true, Bool.not_false, cond_true, cond_false]) ?_
      refine AWp.skip ?_
      refine nT ?_
      refine AWp.seq ?_
      refine AWp.block ?_
      refine AWp.seq ?_
      obtain ⟨⟨a15, a16, a17⟩, e18, hsK22⟩ := bindS hsK22
      obtain ⟨f19, f20⟩ := gtI e18
      refine AWp.rg hT hA { tk := [12] } (by (repeat (cbv; simp only [c14, f19, f20])); first | done | cbv) (lb rfl) ?_
      refine nT ?_
      refine AWp.seq ?_
      refine AWp.rg hT hA {} (by (repeat (cbv; simp only [c14])); first | done | cbv) (lb rfl) ?_
      refine nT ?_
      rcases tf (A.deq [(.int .i64 x2), (.int .i64 x3), (.int .i64 x4)] [(.int .i64 a15), (.int .i64 a16), (.int .i64 a17)]) with c21 | c21
      · replace hsK22 := cT c21 hsK22
        refine AWp.cdT rfl (by first | rfl | simp only [c14, c21, Bool.not_true, Bool.not_false, cond_true, cond_false]) ?_
        refine AWp.seq ?_
        refine AWp.rg hT hA { tk := [0, 16] } (by (repeat (cbv; simp only [c14, c21])); first | done | cbv) (lb rfl) ?_
        refine nT ?_
        refine AWp.ret ?_
        refine rB ?_
        refine rT ?_
        refine rT ?_
        refine exL hsK22 fun hx => ?_
        subst hx
        refine oxR ?_
        replace hkK22 := (eR (hK22 _ hkK22))
        refine rB ?_
        refine rT ?_
        cases soI hkK22
        exact ⟨rfl, rfl, rfl, lb rfl, _, rfl⟩
      · replace hsK22 := cF c21 hsK22
        refine AWp.cdF rfl (by first | rfl | simp only [c14, c21, Bool.not_true, Bool.not_false, cond_true, cond_false]) ?_
        refine AWp.skip ?_
        refine nB ?_
        refine nT ?_
        refine AWp.rg hT hA {} (by (repeat (cbv; simp only [c14, c21])); first | done | cbv) (lb rfl) ?_
        exact nT ⟨_, (soI hsK22).symm, rfl, (by first | (cbv; done) | ((repeat (cbv; simp only [c14, c21])); first | done | cbv))⟩
    · replace hsK22 := cF c14 hsK22
      refine AWp.cdF rfl (by first | rfl | simp only [c14, Bool.not_true, Bool.not_false, cond_true, cond_false]) ?_
      refine AWp.exit ?_
      refine xT ?_
      refine xT ?_
      refine exL hsK22 fun hx => ?_
      subst hx
      exact oxI ⟨rfl, hkK22, (by first | (cbv; done) | ((repeat (cbv; simp only [c14])); first | done | cbv))⟩
  · rintro _ ⟨hkK22, rfl⟩
    have h := (eL (hK22 _ hkK22))
    refine xB ?_
    refine nT ?_
    refine AWp.seq ?_
    obtain ⟨l23, e24, h⟩ := bindS h
    obtain ⟨f25, f26⟩ := apI e24
    refine AWp.rg hT hA { tk := [0, 21] } (by (repeat (cbv; simp only [f25, f26])); first | done | cbv) (lb rfl) ?_
    refine nT ?_
    refine AWp.ret ?_
    cases soI h
    exact ⟨rfl, rfl, rfl, lb rfl, _, rfl⟩

theorem R54w {A : Ar} (hA : A = Ar.std) {x1 : Int} {x2 : List D} {x3 : Int} {v38 : Int} {v39 : List D} {v40 : Int} (h : R54 A x1 x2 x3 = some (v38, v39, v40)) : ACall Try.prog 54 [(.d (.agg [(.int .i64 x1), (.list 3 x2)])), (.d (.int .i64 x3))] [] (.tuple [(.d (.agg [(.int .i64 v38), (.list 3 v39)])), (.d (.int .i64 v40))]) [] := by
  unfold R54 at h
  refine ACall.enter hT (fn := Try.f54) Try.func54 rfl (by decide) (by simp [Try.f54]) rfl rfl rfl rfl (lb rfl) ?_
  refine AWp.seq ?_
  refine AWp.rg hT hA {} (by cbv) (lb rfl) ?_
  refine nT ?_
  refine AWp.seq ?_
  refine AWp.seq ?_
  refine AWp.region ?_
  obtain ⟨r5, e4, h⟩ := bindS h
  refine AOps.cc hT hA {} (by cbv) (lb rfl) (R34w hA e4) rfl (.inl rfl) rfl rfl rfl (lb rfl) rfl rfl ?_
  refine AOps.cd hT hA {} (by cbv) (lb rfl) ?_
  refine nT ?_
  rcases tf r5 with c6 | c6
  · replace h := cT c6 h
    refine AWp.cdF rfl (by first | rfl | simp only [c6, Bool.not_true, Bool.not_false, cond_true, cond_false]) ?_
    refine AWp.skip ?_
    refine nT ?_
    refine AWp.seq ?_
    refine AWp.seq ?_
    refine AWp.region ?_
    obtain ⟨r8, e7, h⟩ := bindS h
    refine AOps.cc hT hA {} (by (repeat (cbv; simp only [c6])); first | done | cbv) (lb rfl) (R63w hA e7) rfl (.inl rfl) rfl rfl rfl (lb rfl) rfl rfl ?_
    refine AOps.cd hT hA {} (by (repeat (cbv; simp only [c6])); first | done | cbv) (lb rfl) ?_
    refine nT ?_
    rcases tf r8 with c9 | c9
    · replace h := cT c9 h
      refine AWp.cdF rfl (by first | rfl | simp only [c6, c9, Bool.not_true, Bool.not_false, cond_true, cond_false]) ?_
      refine AWp.skip ?_
      refine nT ?_
      refine AWp.seq ?_
      refine AWp.rg hT hA { tk := [19], nl := [19] } (by (repeat (cbv; simp only [c6, c9])); first | done | cbv) (lb rfl) ?_
      refine nT ?_
      refine AWp.seq ?_
      refine AWp.seq ?_
      refine AWp.rg hT hA {} (by (repeat (cbv; simp only [c6, c9])); first | done | cbv) (lb rfl) ?_
      refine nT ?_
      refine AWp.block ?_
      obtain ⟨xK37, hxK37, K37, hK37, hkK37⟩ := bindK h
      refine AWp.cutX 0 [4, 6] [] 0 (lb rfl) (fun τ => ∃ v36, K37 v36 = some (v38, v39, v40) ∧ τ = { env := [(4, (.lbox [(.d (.int .i64 0)), (.own 3 [])])), (6, (.lbox [(.d (.int .i64 x1)), (.own 3 v36)]))], heap := [], n := 39 }) ?_ ?_
      · skip
        refine AWp.iter hxK37 [1, 4, 6, 21, 22, 23] [] 0 (lb rfl) (fun (v22, v23) => { env := [(1, (.d (.int .i64 x3))), (4, (.lbox [(.d (.int .i64 0)), (.own 3 [])])), (6, (.lbox [(.d (.int .i64 x1)), (.own 3 v22)])), (21, (.d (.list 3 x2))), (22, (.d (.int .i64 (A.len x2)))), (23, (.d (.int .i64 v23)))], heap := [], n := 39 }) ⟨rfl, (by first | (cbv; done) | ((repeat (cbv; simp only [c6, c9])); first | done | cbv))⟩ ?_
        rintro ⟨v22, v23⟩ eK37 hsK37
        dsimp only [R54L0] at hsK37
        refine AWp.seq ?_
        refine AWp.rg hT hA {} (by cbv) (lb rfl) ?_
        refine nT ?_
        refine AWp.seq ?_
        rcases tf (A.zlt v23 (A.len x2)) with c24 | c24
        · replace hsK37 := cT c24 hsK37
          refine AWp.cdT rfl (by first | rfl | simp only [c24, Bool.not_true, Bool.not_false, cond_true, cond_false]) ?_
          refine AWp.skip ?_
          refine nT ?_
          refine AWp.seq ?_
          refine AWp.block ?_
          refine AWp.seq ?_
          obtain ⟨⟨a25, a26, a27⟩, e28, hsK37⟩ := bindS hsK37
          obtain ⟨f29, f30⟩ := gtI e28
          refine AWp.rg hT hA { tk := [26] } (by (repeat (cbv; simp only [c24, f29, f30])); first | done | cbv) (lb rfl) ?_
          refine nT ?_
          refine AWp.seq ?_
          refine AWp.seq ?_
          refine AWp.rg hT hA {} (by (repeat (cbv; simp only [c24])); first | done | cbv) (lb rfl) ?_
          refine nT ?_
          obtain ⟨v32, hvK33, hsK37⟩ := bindS hsK37
          refine AWp.cutN [1, 4, 6, 8, 21, 22, 23] [] 0 (lb rfl) (fun τ => τ = { env := [(1, (.d (.int .i64 x3))), (4, (.lbox [(.d (.int .i64 0)), (.own 3 [])])), (6, (.lbox [(.d (.int .i64 x1)), (.own 3 v22)])), (8, (.lbox [(.d (.int .i64 a25)), (.d (.int .i64 v32)), (.d (.int .i64 a27))])), (21, (.d (.list 3 x2))), (22, (.d (.int .i64 (A.len x2)))), (23, (.d (.int .i64 v23)))], heap := [], n := 39 }) ?_ ?_
          · skip
            rcases tf (A.zeq a26 x3) with c31 | c31
            · replace hvK33 := cT c31 hvK33
              refine AWp.cdT rfl (by first | rfl | simp only [c24, c31, Bool.not_true, Bool.not_false, cond_true, cond_false]) ?_
              refine AWp.rg hT hA {} (by (repeat (cbv; simp only [c24, c31])); first | done | cbv) (lb rfl) ?_
              cases soI hvK33
              exact oNi ⟨rfl, (by first | (cbv; done) | ((repeat (cbv; simp only [c24, c31])); first | done | cbv))⟩
            · replace hvK33 := cF c31 hvK33
              refine AWp.cdF rfl (by first | rfl | simp only [c24, c31, Bool.not_true, Bool.not_false, cond_true, cond_false]) ?_
              refine AWp.skip ?_
              cases soI hvK33
              exact oNi ⟨rfl, (by first | (cbv; done) | ((repeat (cbv; simp only [c24, c31])); first | done | cbv))⟩
          · rintro _ rfl
            refine nT ?_
            refine AWp.region ?_
            obtain ⟨r35, e34, hsK37⟩ := bindS hsK37
            refine AOps.cO hT hA { tk := [33, 35] } 0 (by cbv) (lb rfl) (R101w hA e34) rfl rfl rfl rfl rfl rfl rfl rfl (lb rfl) rfl rfl ?_
            refine AOps.cd hT hA { tk := [33, 35] } (by cbv) (lb rfl) ?_
            refine nB ?_
            refine nT ?_
            refine AWp.rg hT hA {} (by cbv) (lb rfl) ?_
            exact nT ⟨_, (soI hsK37).symm, rfl, (by cbv)⟩
        · replace hsK37 := cF c24 hsK37
          refine AWp.cdF rfl (by first | rfl | simp only [c24, Bool.not_true, Bool.not_false, cond_true, cond_false]) ?_
          refine AWp.exit ?_
          refine xT ?_
          refine xT ?_
          refine exL hsK37 fun hx => ?_
          subst hx
          exact oxI ⟨rfl, _, hkK37, (by first | (cbv; done) | ((repeat (cbv; simp only [c24])); first | done | cbv))⟩
      · rintro _ ⟨v36, hkK37, rfl⟩
        have h := (hK37 _ hkK37)
        refine xB ?_
        refine nT ?_
        refine AWp.seq ?_
        refine AWp.rg hT hA { tk := [38] } (by cbv) (lb rfl) ?_
        refine nT ?_
        refine AWp.ret ?_
        cases soI h
        exact ⟨rfl, rfl, rfl, lb rfl, _, rfl⟩
    · replace h := cF c9 h
      refine AWp.cdT rfl (by first | rfl | simp only [c6, c9, Bool.not_true, Bool.not_false, cond_true, cond_false]) ?_
      refine AWp.seq ?_
      refine AWp.rg hT hA { tk := [16], nl := [16] } (by (repeat (cbv; simp only [c6, c9])); first | done | cbv) (lb rfl) ?_
      refine nT ?_
      refine AWp.ret ?_
      refine rT ?_
      cases soI h
      exact ⟨rfl, rfl, rfl, lb rfl, _, rfl⟩
  · replace h := cF c6 h
    refine AWp.cdT rfl (by first | rfl | simp only [c6, Bool.not_true, Bool.not_false, cond_true, cond_false]) ?_
    refine AWp.seq ?_
    refine AWp.rg hT hA { tk := [12], nl := [12] } (by (repeat (cbv; simp only [c6])); first | done | cbv) (lb rfl) ?_
    refine nT ?_
    refine AWp.ret ?_
    refine rT ?_
    cases soI h
    exact ⟨rfl, rfl, rfl, lb rfl, _, rfl⟩
end Go.Am
