/- Own text: Genw1. -/
import Derived.Test.YtlpolnmadfmphaaGenw0
set_option maxRecDepth 100000
set_option maxHeartbeats 2000000
set_option linter.unusedVariables false
set_option linter.unusedSimpArgs false
namespace Go.Am
open Go Go.Proofs
theorem H3w {A : Ar} (hA : A = Ar.std) {x1 : List D} {x2 : List D} {x3 : Int} {x4 : Int} {v40 : Bool} (h : H3 A x1 x2 x3 x4 = some v40) : ACall Try.prog 3 [(.d (.list 4 x1)), (.d (.list 6 x2)), (.d (.agg [(.int .i64 x3), (.int .i64 x4)]))] [] (.d (.bool v40)) [] := by
  unfold H3 at h
  refine ACall.enter hT (fn := Try.f3) Try.func3 rfl (by decide) (by simp [Try.f3]) rfl rfl rfl rfl (lb rfl) ?_
  refine AWp.seq ?_
  refine AWp.rg hT hA {} (by cbv) (lb rfl) ?_
  refine nT ?_
  refine AWp.seq ?_
  refine AWp.seq ?_
  obtain ⟨v10, hvK11, h⟩ := bindS h
  refine AWp.cutN [0, 1, 5, 20] [] 0 (lb rfl) (fun τ => τ = { env := [(0, (.d (.list 4 x1))), (1, (.d (.list 6 x2))), (5, (.lbox [(.d (.int .i64 x3)), (.d (.int .i64 x4))])), (20, (.d (.bool v10)))], heap := [], n := 80 }) ?_ ?_
  · skip
    refine AWp.region ?_
    obtain ⟨r6, e5, hvK11⟩ := bindS hvK11
    refine AOps.cc hT hA {} (by cbv) (lb rfl) (H17w hA e5) rfl (.inl rfl) rfl rfl rfl (lb rfl) rfl rfl ?_
    rcases tf r6 with c7 | c7
    · replace hvK11 := cT c7 hvK11
      refine AOps.cd hT hA {} (by (repeat (cbv; simp only [c7])); first | done | cbv) (lb rfl) ?_
      cases soI hvK11
      exact oNi ⟨rfl, (by first | cbv | ((repeat (cbv; simp only [c7])); first | done | cbv))⟩
    · replace hvK11 := cF c7 hvK11
      obtain ⟨r9, e8, hvK11⟩ := bindS hvK11
      refine AOps.cc hT hA {} (by (repeat (cbv; simp only [c7])); first | done | cbv) (lb rfl) (H18w hA e8) rfl (.inl rfl) rfl rfl rfl (lb rfl) rfl rfl ?_
      refine AOps.cd hT hA {} (by (repeat (cbv; simp only [c7])); first | done | cbv) (lb rfl) ?_
      cases soI hvK11
      exact oNi ⟨rfl, (by first | cbv | ((repeat (cbv; simp only [c7])); first | done | cbv))⟩
  · rintro _ rfl
    refine nT ?_
    rcases tf v10 with c12 | c12
    · replace h := cT c12 h
      refine AWp.cdT rfl (by first | rfl | simp only [c12, Bool.not_true, Bool.not_false, cond_true, cond_false]) ?_
      refine AWp.seq ?_
      refine AWp.region ?_
      obtain ⟨r14, e13, h⟩ := bindS h
      refine AOps.cc hT hA { tk := [21] } (by (repeat (cbv; simp only [c12])); first | done | cbv) (lb rfl) (H19w hA e13) rfl (.inl rfl) rfl rfl rfl (lb rfl) rfl rfl ?_
      refine AOps.cd hT hA { tk := [21] } (by (repeat (cbv; simp only [c12])); first | done | cbv) (lb rfl) ?_
      refine nT ?_
      refine AWp.ret ?_
      refine rT ?_
      cases soI h
      exact ⟨rfl, rfl, rfl, lb rfl, _, rfl⟩
    · replace h := cF c12 h
      refine AWp.cdF rfl (by first | rfl | simp only [c12, Bool.not_true, Bool.not_false, cond_true, cond_false]) ?_
      refine AWp.skip ?_
      refine nT ?_
      refine AWp.seq ?_
      refine AWp.region ?_
      obtain ⟨⟨r16, r17⟩, e15, h⟩ := bindS h
      refine AOps.cc hT hA {} (by (repeat (cbv; simp only [c12])); first | done | cbv) (lb rfl) (H20w hA e15) rfl (.inl rfl) rfl rfl rfl (lb rfl) rfl rfl ?_
      refine AOps.cd hT hA {} (by (repeat (cbv; simp only [c12])); first | done | cbv) (lb rfl) ?_
      refine nT ?_
      refine AWp.seq ?_
      refine AWp.region ?_
      obtain ⟨⟨r19, r20⟩, e18, h⟩ := bindS h
      refine AOps.cc hT hA {} (by (repeat (cbv; simp only [c12])); first | done | cbv) (lb rfl) (H21w hA e18) rfl (.inl rfl) rfl rfl rfl (lb rfl) rfl rfl ?_
      refine AOps.cd hT hA {} (by (repeat (cbv; simp only [c12])); first | done | cbv) (lb rfl) ?_
      refine nT ?_
      refine AWp.seq ?_
      refine AWp.region ?_
      obtain ⟨⟨r22, r23⟩, e21, h⟩ := bindS h
      refine AOps.cc hT hA {} (by (repeat (cbv; simp only [c12])); first | done | cbv) (lb rfl) (H22w hA e21) rfl (.inl rfl) rfl rfl rfl (lb rfl) rfl rfl ?_
      refine AOps.cd hT hA {} (by (repeat (cbv; simp only [c12])); first | done | cbv) (lb rfl) ?_
      refine nT ?_
      refine AWp.seq ?_
      refine AWp.region ?_
      obtain ⟨⟨r25, r26⟩, e24, h⟩ := bindS h
      refine AOps.cc hT hA {} (by (repeat (cbv; simp only [c12])); first | done | cbv) (lb rfl) (H23w hA e24) rfl (.inl rfl) rfl rfl rfl (lb rfl) rfl rfl ?_
      refine AOps.cd hT hA {} (by (repeat (cbv; simp only [c12])); first | done | cbv) (lb rfl) ?_
      refine nT ?_
      refine AWp.seq ?_
      obtain ⟨v38, hvK39, h⟩ := bindS h
      refine AWp.cutN [6] [] 0 (lb rfl) (fun τ => τ = { env := [(6, (.d (.bool v38)))], heap := [], n := 80 }) ?_ ?_
      · skip
        refine AWp.region ?_
        obtain ⟨r28, e27, hvK39⟩ := bindS hvK39
        refine AOps.cc hT hA { tk := [79] } (by (repeat (cbv; simp only [c12])); first | done | cbv) (lb rfl) (H24w hA e27) rfl (.inl rfl) rfl rfl rfl (lb rfl) rfl rfl ?_
        obtain ⟨r30, e29, hvK39⟩ := bindS hvK39
        refine AOps.cc hT hA { tk := [79] } (by (repeat (cbv; simp only [c12])); first | done | cbv) (lb rfl) (H25w hA e29) rfl (.inl rfl) rfl rfl rfl (lb rfl) rfl rfl ?_
        rcases tf (A.beq r28 r30) with c31 | c31
        · replace hvK39 := cT c31 hvK39
          rcases tf (A.beq r16 r19) with c32 | c32
          · replace hvK39 := cT c32 hvK39
            rcases tf (A.zeq r17 r20) with c33 | c33
            · replace hvK39 := cT c33 hvK39
              rcases tf (A.beq r22 r25) with c34 | c34
              · replace hvK39 := cT c34 hvK39
                rcases tf (A.zeq r23 r26) with c35 | c35
                · replace hvK39 := cT c35 hvK39
                  obtain ⟨r37, e36, hvK39⟩ := bindS hvK39
                  refine AOps.cc hT hA { tk := [79] } (by (repeat (cbv; simp only [c12, c31, c32, c33, c34, c35])); first | done | cbv) (lb rfl) (H19w hA e36) rfl (.inl rfl) rfl rfl rfl (lb rfl) rfl rfl ?_
                  refine AOps.cd hT hA { tk := [79] } (by (repeat (cbv; simp only [c12, c31, c32, c33, c34, c35])); first | done | cbv) (lb rfl) ?_
                  cases soI hvK39
                  exact oNi ⟨rfl, (by first | cbv | ((repeat (cbv; simp only [c12, c31, c32, c33, c34, c35])); first | done | cbv))⟩
                · replace hvK39 := cF c35 hvK39
                  refine AOps.cd hT hA { tk := [79] } (by (repeat (cbv; simp only [c12, c31, c32, c33, c34, c35])); first | done | cbv) (lb rfl) ?_
                  cases soI hvK39
                  exact oNi ⟨rfl, (by first | cbv | ((repeat (cbv; simp only [c12, c31, c32, c33, c34, c35])); first | done | cbv))⟩
              · replace hvK39 := cF c34 hvK39
                refine AOps.cd hT hA { tk := [79] } (by (repeat (cbv; simp only [c12, c31, c32, c33, c34])); first | done | cbv) (lb rfl) ?_
                cases soI hvK39
                exact oNi ⟨rfl, (by first | cbv | ((repeat (cbv; simp only [c12, c31, c32, c33, c34])); first | done | cbv))⟩
            · replace hvK39 := cF c33 hvK39
              refine AOps.cd hT hA { tk := [79] } (by (repeat (cbv; simp only [c12, c31, c32, c33])); first | done | cbv) (lb rfl) ?_
              cases soI hvK39
              exact oNi ⟨rfl, (by first | cbv | ((repeat (cbv; simp only [c12, c31, c32, c33])); first | done | cbv))⟩
          · replace hvK39 := cF c32 hvK39
            refine AOps.cd hT hA { tk := [79] } (by (repeat (cbv; simp only [c12, c31, c32])); first | done | cbv) (lb rfl) ?_
            cases soI hvK39
            exact oNi ⟨rfl, (by first | cbv | ((repeat (cbv; simp only [c12, c31, c32])); first | done | cbv))⟩
        · replace hvK39 := cF c31 hvK39
          refine AOps.cd hT hA { tk := [79] } (by (repeat (cbv; simp only [c12, c31])); first | done | cbv) (lb rfl) ?_
          cases soI hvK39
          exact oNi ⟨rfl, (by first | cbv | ((repeat (cbv; simp only [c12, c31])); first | done | cbv))⟩
      · rintro _ rfl
        refine nT ?_
        refine AWp.ret ?_
        cases soI h
        exact ⟨rfl, rfl, rfl, lb rfl, _, rfl⟩
end Go.Am
