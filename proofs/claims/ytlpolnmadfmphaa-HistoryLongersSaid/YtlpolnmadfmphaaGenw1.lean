/- Own text: Genw1. -/
import Derived.Test.YtlpolnmadfmphaaGenw0
set_option maxRecDepth 100000
set_option maxHeartbeats 2000000
set_option linter.unusedVariables false
set_option linter.unusedSimpArgs false
namespace Go.Am
open Go Go.Proofs
theorem H42w {A : Ar} (hA : A = Ar.std) {x1 : List D} {x2 : Int} {x3 : Int} {x4 : Int} {v72 : List D} {v73 : Int} (h : H42 A x1 x2 x3 x4 = some (v72, v73)) : ACall Try.prog 42 [(.d (.list 6 x1)), (.d (.int .i64 x2)), (.d (.int .i64 x3)), (.d (.int .i64 x4))] [] (.tuple [(.d (.list 6 v72)), (.d (.int .i64 v73))]) [] := by
  unfold H42 at h
  refine ACall.enter hT (fn := Try.f42) Try.func42 rfl (by decide) (by simp [Try.f42]) rfl rfl rfl rfl (lb rfl) ?_
  refine AWp.seq ?_
  refine AWp.rg hT hA {} (by cbv) (lb rfl) ?_
  refine nT ?_
  refine AWp.seq ?_
  refine AWp.seq ?_
  refine AWp.region ?_
  obtain ⟨r6, e5, h⟩ := bindS h
  refine AOps.cc hT hA {} (by cbv) (lb rfl) (H25w hA e5) rfl (.inl rfl) rfl rfl rfl (lb rfl) rfl rfl ?_
  refine AOps.cd hT hA {} (by cbv) (lb rfl) ?_
  refine nT ?_
  rcases tf r6 with c7 | c7
  · replace h := cT c7 h
    refine AWp.cdF rfl (by first | rfl | simp only [c7, Bool.not_true, Bool.not_false, cond_true, cond_false]) ?_
    refine AWp.skip ?_
    refine nT ?_
    refine AWp.seq ?_
    refine AWp.seq ?_
    obtain ⟨v22, hvK23, h⟩ := bindS h
    refine AWp.cutN [0, 1, 2, 3, 45] [] 0 (lb rfl) (fun τ => τ = { env := [(0, (.d (.list 6 x1))), (1, (.d (.int .i64 x2))), (2, (.d (.int .i64 x3))), (3, (.d (.int .i64 x4))), (45, (.d (.bool v22)))], heap := [], n := 63 }) ?_ ?_
    · skip
      refine AWp.region ?_
      obtain ⟨r9, e8, hvK23⟩ := bindS hvK23
      refine AOps.cc hT hA {} (by (repeat (cbv; simp only [c7])); first | done | cbv) (lb rfl) (H67w hA e8) rfl (.inl rfl) rfl rfl rfl (lb rfl) rfl rfl ?_
      rcases tf r9 with c10 | c10
      · replace hvK23 := cT c10 hvK23
        obtain ⟨⟨a11, a12, a13, a14, a15, a16⟩, e17, hvK23⟩ := bindS hvK23
        obtain ⟨f18, f19⟩ := gtI e17
        rcases tf (A.zeq a16 0) with c20 | c20
        · replace hvK23 := cT c20 hvK23
          refine AOps.cd hT hA {} (by (repeat (cbv; simp only [c7, c10, c20, f18, f19])); first | done | cbv) (lb rfl) ?_
          cases soI hvK23
          exact oNi ⟨rfl, (by first | (cbv; done) | ((repeat (cbv; simp only [c7, c10, c20])); first | done | cbv))⟩
        · replace hvK23 := cF c20 hvK23
          rcases tf (A.zlt a15 x3) with c21 | c21
          · replace hvK23 := cT c21 hvK23
            refine AOps.cd hT hA {} (by (repeat (cbv; simp only [c7, c10, c20, c21, f18, f19])); first | done | cbv) (lb rfl) ?_
            cases soI hvK23
            exact oNi ⟨rfl, (by first | (cbv; done) | ((repeat (cbv; simp only [c7, c10, c20, c21])); first | done | cbv))⟩
          · replace hvK23 := cF c21 hvK23
            refine AOps.cd hT hA {} (by (repeat (cbv; simp only [c7, c10, c20, c21, f18, f19])); first | done | cbv) (lb rfl) ?_
            cases soI hvK23
            exact oNi ⟨rfl, (by first | (cbv; done) | ((repeat (cbv; simp only [c7, c10, c20, c21])); first | done | cbv))⟩
      · replace hvK23 := cF c10 hvK23
        refine AOps.cd hT hA {} (by (repeat (cbv; simp only [c7, c10])); first | done | cbv) (lb rfl) ?_
        cases soI hvK23
        exact oNi ⟨rfl, (by first | (cbv; done) | ((repeat (cbv; simp only [c7, c10])); first | done | cbv))⟩
    · rintro _ rfl
      refine nT ?_
      rcases tf v22 with c24 | c24
      · replace h := cT c24 h
        refine AWp.cdT rfl (by first | rfl | simp only [c24, Bool.not_true, Bool.not_false, cond_true, cond_false]) ?_
        refine AWp.seq ?_
        refine AWp.rg hT hA {} (by (repeat (cbv; simp only [c24])); first | done | cbv) (lb rfl) ?_
        refine nT ?_
        refine AWp.ret ?_
        refine rT ?_
        cases soI h
        exact ⟨rfl, rfl, rfl, lb rfl, _, rfl⟩
      · replace h := cF c24 h
        refine AWp.cdF rfl (by first | rfl | simp only [c24, Bool.not_true, Bool.not_false, cond_true, cond_false]) ?_
        refine AWp.skip ?_
        refine nT ?_
        refine AWp.seq ?_
        rcases tf (A.zlt 0 (A.len x1)) with c25 | c25
        · replace h := cT c25 h
          obtain ⟨_, e26, h⟩ := bindS h
          have f27 := ckI e26
          refine AWp.rg hT hA { nl := [46], th := [48] } (by (repeat (cbv; simp only [c24, c25, f27])); first | done | cbv) (lb rfl) ?_
          refine nT ?_
          refine AWp.seq ?_
          obtain ⟨_, e32, h⟩ := bindS h
          have f34 := ckI e32
          obtain ⟨_, e33, h⟩ := bindS h
          have f35 := ckI e33
          obtain ⟨⟨a36, a37, a38, a39, a40, a41⟩, e42, h⟩ := bindS h
          have f43 := gcI e42
          obtain ⟨_, e44, h⟩ := bindS h
          have f46 := ckI e44
          obtain ⟨_, e45, h⟩ := bindS h
          have f47 := ckI e45
          obtain ⟨⟨a48, a49, a50, a51, a52, a53⟩, e54, h⟩ := bindS h
          have f55 := gcI e54
          refine AWp.rg hT hA {} (by (repeat (cbv; simp only [c24, c25, f34, f35, f43, f46, f47, f55])); first | done | cbv) (lb rfl) ?_
          refine nT ?_
          refine AWp.seq ?_
          refine AWp.seq ?_
          refine AWp.region ?_
          obtain ⟨r57, e56, h⟩ := bindS h
          refine AOps.cc hT hA {} (by (repeat (cbv; simp only [c24, c25])); first | done | cbv) (lb rfl) (H25aw hA e56) rfl (.inl rfl) rfl rfl rfl (lb rfl) rfl rfl ?_
          refine AOps.cd hT hA {} (by (repeat (cbv; simp only [c24, c25])); first | done | cbv) (lb rfl) ?_
          refine nT ?_
          rcases tf r57 with c58 | c58
          · replace h := cT c58 h
            refine AWp.cdF rfl (by first | rfl | simp only [c24, c25, c58, Bool.not_true, Bool.not_false, cond_true, cond_false]) ?_
            refine AWp.skip ?_
            refine nT ?_
            refine AWp.seq ?_
            refine AWp.rg hT hA {} (by (repeat (cbv; simp only [c24, c25, c58])); first | done | cbv) (lb rfl) ?_
            refine nT ?_
            obtain ⟨l59, e60, h⟩ := bindS h
            obtain ⟨f61, f62⟩ := fzI hA e60
            refine AWp.freeze (s := 8) (i := 0) rfl rfl f61 f62 ?_
            refine AWp.ret ?_
            cases soI h
            exact ⟨rfl, rfl, rfl, lb rfl, _, rfl⟩
          · replace h := cF c58 h
            refine AWp.cdT rfl (by first | rfl | simp only [c24, c25, c58, Bool.not_true, Bool.not_false, cond_true, cond_false]) ?_
            refine AWp.seq ?_
            refine AWp.rg hT hA {} (by (repeat (cbv; simp only [c24, c25, c58])); first | done | cbv) (lb rfl) ?_
            refine nT ?_
            refine AWp.ret ?_
            refine rT ?_
            cases soI h
            exact ⟨rfl, rfl, rfl, lb rfl, _, rfl⟩
        · replace h := cF c25 h
          obtain ⟨l28, e29, h⟩ := bindS h
          obtain ⟨f30, f31⟩ := apI e29
          refine AWp.rg hT hA {} (by (repeat (cbv; simp only [c24, c25, f30, f31])); first | done | cbv) (lb rfl) ?_
          refine nT ?_
          refine AWp.seq ?_
          obtain ⟨⟨a63, a64, a65, a66, a67, a68⟩, e69, h⟩ := bindS h
          obtain ⟨f70, f71⟩ := gtI e69
          cases h
  · replace h := cF c7 h
    refine AWp.cdT rfl (by first | rfl | simp only [c7, Bool.not_true, Bool.not_false, cond_true, cond_false]) ?_
    refine AWp.seq ?_
    refine AWp.rg hT hA {} (by (repeat (cbv; simp only [c7])); first | done | cbv) (lb rfl) ?_
    refine nT ?_
    refine AWp.ret ?_
    refine rT ?_
    cases soI h
    exact ⟨rfl, rfl, rfl, lb rfl, _, rfl⟩

theorem H8w {A : Ar} (hA : A = Ar.std) {x1 : List D} {x2 : Int} {x3 : Int} {x4 : Int} {v24 : Bool} (h : H8 A x1 x2 x3 x4 = some v24) : ACall Try.prog 8 [(.d (.list 6 x1)), (.d (.int .i64 x2)), (.d (.agg [(.int .i64 x3), (.int .i64 x4)]))] [] (.d (.bool v24)) [] := by
  unfold H8 at h
  refine ACall.enter hT (fn := Try.f8) Try.func8 rfl (by decide) (by simp [Try.f8]) rfl rfl rfl rfl (lb rfl) ?_
  refine AWp.seq ?_
  refine AWp.rg hT hA {} (by cbv) (lb rfl) ?_
  refine nT ?_
  refine AWp.seq ?_
  refine AWp.seq ?_
  refine AWp.region ?_
  obtain ⟨r6, e5, h⟩ := bindS h
  refine AOps.cc hT hA {} (by cbv) (lb rfl) (H18w hA e5) rfl (.inl rfl) rfl rfl rfl (lb rfl) rfl rfl ?_
  refine AOps.cd hT hA {} (by cbv) (lb rfl) ?_
  refine nT ?_
  rcases tf r6 with c7 | c7
  · replace h := cT c7 h
    refine AWp.cdT rfl (by first | rfl | simp only [c7, Bool.not_true, Bool.not_false, cond_true, cond_false]) ?_
    refine AWp.seq ?_
    refine AWp.region ?_
    obtain ⟨r9, e8, h⟩ := bindS h
    refine AOps.cc hT hA { tk := [13] } (by (repeat (cbv; simp only [c7])); first | done | cbv) (lb rfl) (H19w hA e8) rfl (.inl rfl) rfl rfl rfl (lb rfl) rfl rfl ?_
    refine AOps.cd hT hA { tk := [13] } (by (repeat (cbv; simp only [c7])); first | done | cbv) (lb rfl) ?_
    refine nT ?_
    refine AWp.ret ?_
    refine rT ?_
    cases soI h
    exact ⟨rfl, rfl, rfl, lb rfl, _, rfl⟩
  · replace h := cF c7 h
    refine AWp.cdF rfl (by first | rfl | simp only [c7, Bool.not_true, Bool.not_false, cond_true, cond_false]) ?_
    refine AWp.skip ?_
    refine nT ?_
    refine AWp.seq ?_
    refine AWp.region ?_
    obtain ⟨⟨r11, r12⟩, e10, h⟩ := bindS h
    refine AOps.cc hT hA {} (by (repeat (cbv; simp only [c7])); first | done | cbv) (lb rfl) (H41w hA e10) rfl (.inl rfl) rfl rfl rfl (lb rfl) rfl rfl ?_
    refine AOps.cd hT hA {} (by (repeat (cbv; simp only [c7])); first | done | cbv) (lb rfl) ?_
    refine nT ?_
    refine AWp.seq ?_
    refine AWp.region ?_
    obtain ⟨⟨r14, r15⟩, e13, h⟩ := bindS h
    refine AOps.cc hT hA {} (by (repeat (cbv; simp only [c7])); first | done | cbv) (lb rfl) (H42w hA e13) rfl (.inl rfl) rfl rfl rfl (lb rfl) rfl rfl ?_
    refine AOps.cd hT hA {} (by (repeat (cbv; simp only [c7])); first | done | cbv) (lb rfl) ?_
    refine nT ?_
    refine AWp.seq ?_
    obtain ⟨v22, hvK23, h⟩ := bindS h
    refine AWp.cutN [6] [] 0 (lb rfl) (fun τ => τ = { env := [(6, (.d (.bool v22)))], heap := [], n := 45 }) ?_ ?_
    · skip
      refine AWp.region ?_
      obtain ⟨r17, e16, hvK23⟩ := bindS hvK23
      refine AOps.cc hT hA { tk := [44] } (by (repeat (cbv; simp only [c7])); first | done | cbv) (lb rfl) (H34w hA e16) rfl (.inl rfl) rfl rfl rfl (lb rfl) rfl rfl ?_
      rcases tf r17 with c18 | c18
      · replace hvK23 := cT c18 hvK23
        rcases tf (A.zeq r12 r15) with c19 | c19
        · replace hvK23 := cT c19 hvK23
          obtain ⟨r21, e20, hvK23⟩ := bindS hvK23
          refine AOps.cc hT hA { tk := [44] } (by (repeat (cbv; simp only [c7, c18, c19])); first | done | cbv) (lb rfl) (H19w hA e20) rfl (.inl rfl) rfl rfl rfl (lb rfl) rfl rfl ?_
          refine AOps.cd hT hA { tk := [44] } (by (repeat (cbv; simp only [c7, c18, c19])); first | done | cbv) (lb rfl) ?_
          cases soI hvK23
          exact oNi ⟨rfl, (by first | (cbv; done) | ((repeat (cbv; simp only [c7, c18, c19])); first | done | cbv))⟩
        · replace hvK23 := cF c19 hvK23
          refine AOps.cd hT hA { tk := [44] } (by (repeat (cbv; simp only [c7, c18, c19])); first | done | cbv) (lb rfl) ?_
          cases soI hvK23
          exact oNi ⟨rfl, (by first | (cbv; done) | ((repeat (cbv; simp only [c7, c18, c19])); first | done | cbv))⟩
      · replace hvK23 := cF c18 hvK23
        refine AOps.cd hT hA { tk := [44] } (by (repeat (cbv; simp only [c7, c18])); first | done | cbv) (lb rfl) ?_
        cases soI hvK23
        exact oNi ⟨rfl, (by first | (cbv; done) | ((repeat (cbv; simp only [c7, c18])); first | done | cbv))⟩
    · rintro _ rfl
      refine nT ?_
      refine AWp.ret ?_
      cases soI h
      exact ⟨rfl, rfl, rfl, lb rfl, _, rfl⟩
end Go.Am
