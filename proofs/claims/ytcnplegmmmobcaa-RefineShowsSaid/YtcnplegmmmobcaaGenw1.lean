/- Own text: Genw1. -/
import Derived.Test.YtcnplegmmmobcaaGenw0
set_option maxRecDepth 100000
set_option maxHeartbeats 2000000
set_option linter.unusedVariables false
set_option linter.unusedSimpArgs false
namespace Go.Am
open Go Go.Proofs
theorem R4w {A : Ar} (hA : A = Ar.std) {x1 : Int} {x2 : List D} {x3 : Int} {x4 : List D} {v51 : Bool} (h : R4 A x1 x2 x3 x4 = some v51) : ACall Try.prog 4 [(.d (.agg [(.int .i64 x1), (.list 3 x2)])), (.d (.agg [(.int .i64 x3), (.list 3 x4)]))] [] (.d (.bool v51)) [] := by
  unfold R4 at h
  refine ACall.enter hT (fn := Try.f4) Try.func4 rfl (by decide) (by simp [Try.f4]) rfl rfl rfl rfl (lb rfl) ?_
  refine AWp.seq ?_
  refine AWp.rg hT hA {} (by cbv) (lb rfl) ?_
  refine nT ?_
  refine AWp.seq ?_
  refine AWp.seq ?_
  obtain ⟨v10, hvK11, h⟩ := bindS h
  refine AWp.cutN [2, 3, 20] [] 0 (lb rfl) (fun τ => τ = { env := [(2, (.lbox [(.d (.int .i64 x1)), (.d (.list 3 x2))])), (3, (.lbox [(.d (.int .i64 x3)), (.d (.list 3 x4))])), (20, (.d (.bool v10)))], heap := [], n := 84 }) ?_ ?_
  · skip
    refine AWp.region ?_
    obtain ⟨r6, e5, hvK11⟩ := bindS hvK11
    refine AOps.cc hT hA {} (by cbv) (lb rfl) (R16w hA e5) rfl (.inl rfl) rfl rfl rfl (lb rfl) rfl rfl ?_
    rcases tf r6 with c7 | c7
    · replace hvK11 := cT c7 hvK11
      refine AOps.cd hT hA {} (by (repeat (cbv; simp only [c7])); first | done | cbv) (lb rfl) ?_
      cases soI hvK11
      exact oNi ⟨rfl, (by first | (cbv; done) | ((repeat (cbv; simp only [c7])); first | done | cbv))⟩
    · replace hvK11 := cF c7 hvK11
      obtain ⟨r9, e8, hvK11⟩ := bindS hvK11
      refine AOps.cc hT hA {} (by (repeat (cbv; simp only [c7])); first | done | cbv) (lb rfl) (R16w hA e8) rfl (.inl rfl) rfl rfl rfl (lb rfl) rfl rfl ?_
      refine AOps.cd hT hA {} (by (repeat (cbv; simp only [c7])); first | done | cbv) (lb rfl) ?_
      cases soI hvK11
      exact oNi ⟨rfl, (by first | (cbv; done) | ((repeat (cbv; simp only [c7])); first | done | cbv))⟩
  · rintro _ rfl
    refine nT ?_
    rcases tf v10 with c12 | c12
    · replace h := cT c12 h
      refine AWp.cdT rfl (by first | rfl | simp only [c12, Bool.not_true, Bool.not_false, cond_true, cond_false]) ?_
      refine AWp.seq ?_
      refine AWp.region ?_
      obtain ⟨r14, e13, h⟩ := bindS h
      refine AOps.cc hT hA { tk := [21] } (by (repeat (cbv; simp only [c12])); first | done | cbv) (lb rfl) (R17w hA e13) rfl (.inl rfl) rfl rfl rfl (lb rfl) rfl rfl ?_
      refine AOps.cd hT hA { tk := [21] } (by (repeat (cbv; simp only [c12])); first | done | cbv) (lb rfl) ?_
      refine nT ?_
      refine AWp.ret ?_
      refine rT ?_
      cases soI h
      exact ⟨rfl, rfl, rfl, lb rfl, _, rfl⟩
    · replace h := cF c12 h
      refine AWp.cdF rfl (by first | rfl | simp only [c12, Bool.not_true, Bool.not_false, cond_true, cond_false]) ?_
      refine AWp.skip ?_
      refine nT ?_
      refine AWp.seq ?_
      refine AWp.region ?_
      obtain ⟨⟨r16, r17⟩, e15, h⟩ := bindS h
      refine AOps.cc hT hA {} (by (repeat (cbv; simp only [c12])); first | done | cbv) (lb rfl) (R23w hA e15) rfl (.inl rfl) rfl rfl rfl (lb rfl) rfl rfl ?_
      refine AOps.cd hT hA {} (by (repeat (cbv; simp only [c12])); first | done | cbv) (lb rfl) ?_
      refine nT ?_
      refine AWp.seq ?_
      refine AWp.region ?_
      obtain ⟨⟨r19, r20⟩, e18, h⟩ := bindS h
      refine AOps.cc hT hA {} (by (repeat (cbv; simp only [c12])); first | done | cbv) (lb rfl) (R24w hA e18) rfl (.inl rfl) rfl rfl rfl (lb rfl) rfl rfl ?_
      refine AOps.cd hT hA {} (by (repeat (cbv; simp only [c12])); first | done | cbv) (lb rfl) ?_
      refine nT ?_
      refine AWp.seq ?_
      refine AWp.region ?_
      obtain ⟨⟨r22, r23⟩, e21, h⟩ := bindS h
      refine AOps.cc hT hA {} (by (repeat (cbv; simp only [c12])); first | done | cbv) (lb rfl) (R25w hA e21) rfl (.inl rfl) rfl rfl rfl (lb rfl) rfl rfl ?_
      refine AOps.cd hT hA {} (by (repeat (cbv; simp only [c12])); first | done | cbv) (lb rfl) ?_
      refine nT ?_
      refine AWp.seq ?_
      refine AWp.region ?_
      obtain ⟨⟨r25, r26⟩, e24, h⟩ := bindS h
      refine AOps.cc hT hA {} (by (repeat (cbv; simp only [c12])); first | done | cbv) (lb rfl) (R26w hA e24) rfl (.inl rfl) rfl rfl rfl (lb rfl) rfl rfl ?_
      refine AOps.cd hT hA {} (by (repeat (cbv; simp only [c12])); first | done | cbv) (lb rfl) ?_
      refine nT ?_
      refine AWp.seq ?_
      refine AWp.seq ?_
      obtain ⟨v32, hvK33, h⟩ := bindS h
      refine AWp.cutN [2, 62] [] 0 (lb rfl) (fun τ => τ = { env := [(2, (.lbox [(.d (.int .i64 x1)), (.d (.list 3 x2))])), (62, (.d (.bool v32)))], heap := [], n := 84 }) ?_ ?_
      · skip
        refine AWp.region ?_
        obtain ⟨r28, e27, hvK33⟩ := bindS hvK33
        refine AOps.cc hT hA {} (by (repeat (cbv; simp only [c12])); first | done | cbv) (lb rfl) (R27w hA e27) rfl (.inl rfl) rfl rfl rfl (lb rfl) rfl rfl ?_
        rcases tf r28 with c29 | c29
        · replace hvK33 := cT c29 hvK33
          rcases tf (A.zeq r17 r20) with c30 | c30
          · replace hvK33 := cT c30 hvK33
            rcases tf (A.beq r22 r25) with c31 | c31
            · replace hvK33 := cT c31 hvK33
              refine AOps.cd hT hA {} (by (repeat (cbv; simp only [c12, c29, c30, c31])); first | done | cbv) (lb rfl) ?_
              cases soI hvK33
              exact oNi ⟨rfl, (by first | (cbv; done) | ((repeat (cbv; simp only [c12, c29, c30, c31])); first | done | cbv))⟩
            · replace hvK33 := cF c31 hvK33
              refine AOps.cd hT hA {} (by (repeat (cbv; simp only [c12, c29, c30, c31])); first | done | cbv) (lb rfl) ?_
              cases soI hvK33
              exact oNi ⟨rfl, (by first | (cbv; done) | ((repeat (cbv; simp only [c12, c29, c30, c31])); first | done | cbv))⟩
          · replace hvK33 := cF c30 hvK33
            refine AOps.cd hT hA {} (by (repeat (cbv; simp only [c12, c29, c30])); first | done | cbv) (lb rfl) ?_
            cases soI hvK33
            exact oNi ⟨rfl, (by first | (cbv; done) | ((repeat (cbv; simp only [c12, c29, c30])); first | done | cbv))⟩
        · replace hvK33 := cF c29 hvK33
          refine AOps.cd hT hA {} (by (repeat (cbv; simp only [c12, c29])); first | done | cbv) (lb rfl) ?_
          cases soI hvK33
          exact oNi ⟨rfl, (by first | (cbv; done) | ((repeat (cbv; simp only [c12, c29])); first | done | cbv))⟩
      · rintro _ rfl
        refine nT ?_
        rcases tf v32 with c34 | c34
        · replace h := cT c34 h
          refine AWp.cdT rfl (by first | rfl | simp only [c34, Bool.not_true, Bool.not_false, cond_true, cond_false]) ?_
          refine AWp.seq ?_
          refine AWp.rg hT hA {} (by (repeat (cbv; simp only [c34])); first | done | cbv) (lb rfl) ?_
          refine nT ?_
          refine AWp.ret ?_
          refine rT ?_
          cases soI h
          exact ⟨rfl, rfl, rfl, lb rfl, _, rfl⟩
        · replace h := cF c34 h
          refine AWp.cdF rfl (by first | rfl | simp only [c34, Bool.not_true, Bool.not_false, cond_true, cond_false]) ?_
          refine AWp.skip ?_
          refine nT ?_
          refine AWp.seq ?_
          refine AWp.region ?_
          obtain ⟨⟨r36, r37, r38⟩, e35, h⟩ := bindS h
          refine AOps.cc hT hA { tk := [66] } (by (repeat (cbv; simp only [c34])); first | done | cbv) (lb rfl) (R28w hA e35) rfl (.inl rfl) rfl rfl rfl (lb rfl) rfl rfl ?_
          refine AOps.cd hT hA { tk := [66] } (by (repeat (cbv; simp only [c34])); first | done | cbv) (lb rfl) ?_
          refine nT ?_
          refine AWp.seq ?_
          refine AWp.region ?_
          obtain ⟨⟨r40, r41, r42⟩, e39, h⟩ := bindS h
          refine AOps.cc hT hA { tk := [71] } (by (repeat (cbv; simp only [c34])); first | done | cbv) (lb rfl) (R29w hA e39) rfl (.inl rfl) rfl rfl rfl (lb rfl) rfl rfl ?_
          refine AOps.cd hT hA { tk := [71] } (by (repeat (cbv; simp only [c34])); first | done | cbv) (lb rfl) ?_
          refine nT ?_
          refine AWp.seq ?_
          obtain ⟨v49, hvK50, h⟩ := bindS h
          refine AWp.cutN [4] [] 0 (lb rfl) (fun τ => τ = { env := [(4, (.d (.bool v49)))], heap := [], n := 84 }) ?_ ?_
          · skip
            refine AWp.region ?_
            obtain ⟨r44, e43, hvK50⟩ := bindS hvK50
            refine AOps.cc hT hA { tk := [83] } (by (repeat (cbv; simp only [c34])); first | done | cbv) (lb rfl) (R30w hA e43) rfl (.inl rfl) rfl rfl rfl (lb rfl) rfl rfl ?_
            rcases tf r44 with c45 | c45
            · replace hvK50 := cT c45 hvK50
              rcases tf (A.zeq r38 r42) with c46 | c46
              · replace hvK50 := cT c46 hvK50
                obtain ⟨r48, e47, hvK50⟩ := bindS hvK50
                refine AOps.cc hT hA { tk := [83] } (by (repeat (cbv; simp only [c34, c45, c46])); first | done | cbv) (lb rfl) (R17w hA e47) rfl (.inl rfl) rfl rfl rfl (lb rfl) rfl rfl ?_
                refine AOps.cd hT hA { tk := [83] } (by (repeat (cbv; simp only [c34, c45, c46])); first | done | cbv) (lb rfl) ?_
                cases soI hvK50
                exact oNi ⟨rfl, (by first | (cbv; done) | ((repeat (cbv; simp only [c34, c45, c46])); first | done | cbv))⟩
              · replace hvK50 := cF c46 hvK50
                refine AOps.cd hT hA { tk := [83] } (by (repeat (cbv; simp only [c34, c45, c46])); first | done | cbv) (lb rfl) ?_
                cases soI hvK50
                exact oNi ⟨rfl, (by first | (cbv; done) | ((repeat (cbv; simp only [c34, c45, c46])); first | done | cbv))⟩
            · replace hvK50 := cF c45 hvK50
              refine AOps.cd hT hA { tk := [83] } (by (repeat (cbv; simp only [c34, c45])); first | done | cbv) (lb rfl) ?_
              cases soI hvK50
              exact oNi ⟨rfl, (by first | (cbv; done) | ((repeat (cbv; simp only [c34, c45])); first | done | cbv))⟩
          · rintro _ rfl
            refine nT ?_
            refine AWp.ret ?_
            cases soI h
            exact ⟨rfl, rfl, rfl, lb rfl, _, rfl⟩
end Go.Am
