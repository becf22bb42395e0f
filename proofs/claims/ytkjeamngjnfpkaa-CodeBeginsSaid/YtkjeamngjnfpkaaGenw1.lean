/- Own text: Genw1. -/
import Derived.Test.YtkjeamngjnfpkaaGenw0
set_option maxRecDepth 100000
set_option maxHeartbeats 2000000
set_option linter.unusedVariables false
set_option linter.unusedSimpArgs false
namespace Go.Am
open Go Go.Proofs
theorem C17w {A : Ar} (hA : A = Ar.std) {x1 : List D} {x2 : List D} {v46 : Bool} (h : C17 A x1 x2 = some v46) : ACall Try.prog 17 [(.d (.list 6 x1)), (.d (.list 6 x2))] [] (.d (.bool v46)) [] := by
  unfold C17 at h
  refine ACall.enter hT (fn := Try.f17) Try.func17 rfl (by decide) (by simp [Try.f17]) rfl rfl rfl rfl (lb rfl) ?_
  refine AWp.seq ?_
  refine AWp.rg hT hA {} (by cbv) (lb rfl) ?_
  refine nT ?_
  refine AWp.seq ?_
  refine AWp.seq ?_
  refine AWp.rg hT hA {} (by cbv) (lb rfl) ?_
  refine nT ?_
  rcases tf (A.zeq (A.len x1) (A.len x2)) with c3 | c3
  · replace h := cT c3 h
    refine AWp.cdF rfl (by first | rfl | simp only [c3, Bool.not_true, Bool.not_false, cond_true, cond_false]) ?_
    refine AWp.skip ?_
    refine nT ?_
    refine AWp.seq ?_
    refine AWp.seq ?_
    refine AWp.rg hT hA {} (by (repeat (cbv; simp only [c3])); first | done | cbv) (lb rfl) ?_
    refine nT ?_
    refine AWp.block ?_
    obtain ⟨xK45, hxK45, K45, hK45, hkK45⟩ := bindK h
    refine AWp.cutX 0 [] [] 0 (lb rfl) (fun τ => K45 (.inl ()) = some v46 ∧ τ = { env := [], heap := [], n := 26 }) ?_ ?_
    · skip
      refine AWp.iter hxK45 [0, 1, 5] [] 0 (lb rfl) (fun v24 => { env := [(0, (.d (.list 6 x1))), (1, (.d (.list 6 x2))), (5, (.d (.int .i64 v24)))], heap := [], n := 26 }) ⟨rfl, (by first | (cbv; done) | ((repeat (cbv; simp only [c3])); first | done | cbv))⟩ ?_
      rintro v24 eK45 hsK45
      dsimp only [C17L0] at hsK45
      refine AWp.seq ?_
      refine AWp.seq ?_
      refine AWp.rg hT hA {} (by cbv) (lb rfl) ?_
      refine nT ?_
      rcases tf (A.zlt v24 (A.len x1)) with c25 | c25
      · replace hsK45 := cT c25 hsK45
        refine AWp.cdT rfl (by first | rfl | simp only [c25, Bool.not_true, Bool.not_false, cond_true, cond_false]) ?_
        refine AWp.skip ?_
        refine nT ?_
        refine AWp.seq ?_
        refine AWp.block ?_
        refine AWp.seq ?_
        obtain ⟨⟨a26, a27, a28, a29, a30, a31⟩, e32, hsK45⟩ := bindS hsK45
        obtain ⟨f33, f34⟩ := gtI e32
        obtain ⟨⟨a35, a36, a37, a38, a39, a40⟩, e41, hsK45⟩ := bindS hsK45
        obtain ⟨f42, f43⟩ := gtI e41
        refine AWp.rd hT hA {} rfl (by (repeat (cbv; simp only [c25, f33, f34, f42, f43])); first | done | cbv) (by kernel_rfl) (lb rfl) ?_
        refine nT ?_
        rcases tf (A.deq [(.int .i64 a26), (.int .i64 a27), (.int .i64 a28), (.int .i64 a29), (.int .i64 a30), (.int .i64 a31)] [(.int .i64 a35), (.int .i64 a36), (.int .i64 a37), (.int .i64 a38), (.int .i64 a39), (.int .i64 a40)]) with c44 | c44
        · replace hsK45 := cT c44 hsK45
          refine AWp.cdF rfl (by first | rfl | simp only [c25, c44, Bool.not_true, Bool.not_false, cond_true, cond_false]) ?_
          refine AWp.skip ?_
          refine nB ?_
          refine nT ?_
          refine AWp.rg hT hA {} (by (repeat (cbv; simp only [c25, c44])); first | done | cbv) (lb rfl) ?_
          exact nT ⟨_, (soI hsK45).symm, rfl, (by first | (cbv; done) | ((repeat (cbv; simp only [c25, c44])); first | done | cbv))⟩
        · replace hsK45 := cF c44 hsK45
          refine AWp.cdT rfl (by first | rfl | simp only [c25, c44, Bool.not_true, Bool.not_false, cond_true, cond_false]) ?_
          refine AWp.seq ?_
          refine AWp.rg hT hA {} (by (repeat (cbv; simp only [c25, c44])); first | done | cbv) (lb rfl) ?_
          refine nT ?_
          refine AWp.ret ?_
          refine rB ?_
          refine rT ?_
          refine rT ?_
          refine exL hsK45 fun hx => ?_
          subst hx
          refine oxR ?_
          replace hkK45 := (eR (hK45 _ hkK45))
          refine rB ?_
          refine rT ?_
          cases soI hkK45
          exact ⟨rfl, rfl, rfl, lb rfl, _, rfl⟩
      · replace hsK45 := cF c25 hsK45
        refine AWp.cdF rfl (by first | rfl | simp only [c25, Bool.not_true, Bool.not_false, cond_true, cond_false]) ?_
        refine AWp.exit ?_
        refine xT ?_
        refine xT ?_
        refine exL hsK45 fun hx => ?_
        subst hx
        exact oxI ⟨rfl, hkK45, (by first | (cbv; done) | ((repeat (cbv; simp only [c25])); first | done | cbv))⟩
    · rintro _ ⟨hkK45, rfl⟩
      have h := (eL (hK45 _ hkK45))
      refine xB ?_
      refine nT ?_
      refine AWp.seq ?_
      refine AWp.rg hT hA {} (by cbv) (lb rfl) ?_
      refine nT ?_
      refine AWp.ret ?_
      cases soI h
      exact ⟨rfl, rfl, rfl, lb rfl, _, rfl⟩
  · replace h := cF c3 h
    refine AWp.cdT rfl (by first | rfl | simp only [c3, Bool.not_true, Bool.not_false, cond_true, cond_false]) ?_
    refine AWp.seq ?_
    refine AWp.rg hT hA {} (by (repeat (cbv; simp only [c3])); first | done | cbv) (lb rfl) ?_
    refine nT ?_
    refine AWp.ret ?_
    refine rT ?_
    cases soI h
    exact ⟨rfl, rfl, rfl, lb rfl, _, rfl⟩

theorem C70aw {A : Ar} (hA : A = Ar.std) {x1 : List D} {x2 : List D} {x3 : Int} {x4 : Int} {x5 : Int} {x6 : Int} {x7 : Int} {x8 : Int} {x9 : Int} {x10 : Int} {x11 : Int} {x12 : Int} {x13 : Int} {x14 : Int} {x15 : Int} {x16 : Int} {x17 : Int} {x18 : Int} {x19 : Int} {x20 : Int} {x21 : List D} {x22 : List D} {x23 : Int} {v43 : Bool} (h : C70a A x1 x2 x3 x4 x5 x6 x7 x8 x9 x10 x11 x12 x13 x14 x15 x16 x17 x18 x19 x20 x21 x22 x23 = some v43) : ACall Try.prog 70 [(.iptr [(.list 1 x1), (.list 1 x2), (.int .i64 x3), (.int .i64 x4), (.int .i64 x5), (.int .i64 x6), (.int .i64 x7), (.int .i64 x8), (.int .i64 x9), (.int .i64 x10), (.int .i64 x11), (.int .i64 x12), (.int .i64 x13), (.int .i64 x14), (.int .i64 x15), (.int .i64 x16), (.int .i64 x17), (.int .i64 x18), (.int .i64 x19), (.int .i64 x20), (.list 6 x21), (.list 1 x22)]), (.d (.int .i64 x23))] [] (.d (.bool v43)) [] := by
  unfold C70a at h
  refine ACall.enter hT (fn := Try.f70) Try.func70 rfl (by decide) (by simp [Try.f70]) rfl rfl rfl rfl (lb rfl) ?_
  refine AWp.seq ?_
  refine AWp.rg hT hA {} (by cbv) (lb rfl) ?_
  refine nT ?_
  refine AWp.seq ?_
  obtain ⟨v41, hvK42, h⟩ := bindS h
  refine AWp.cutN [4] [] 0 (lb rfl) (fun τ => τ = { env := [(4, (.d (.bool v41)))], heap := [], n := 31 }) ?_ ?_
  · skip
    refine AWp.regionDraw rfl (lb rfl) ?_
    obtain ⟨r25, e24, hvK42⟩ := bindS hvK42
    refine DOps.c0 hT hA { tk := [30] } rfl (by cbv) (C47w hA e24) rfl rfl (lb rfl) rfl rfl ?_
    rcases tf r25 with c26 | c26
    · replace hvK42 := cT c26 hvK42
      rcases tf (A.zeq x23 0) with c27 | c27
      · replace hvK42 := cT c27 hvK42
        obtain ⟨f28a, f28b, f28c⟩ := ixF hA (n := 2) c27 (by decide)
        obtain ⟨a29, e30, hvK42⟩ := bindS hvK42
        obtain ⟨f31, f32⟩ := gtI e30
        have f33 := f32
        rw [f28c] at f33
        refine DOps.cd hT hA { tk := [30] } rfl (by (repeat (cbv; simp only [c26, f28a, f28b, f28c, f33, f31, f32])); first | done | cbv) (by kernel_rfl) ?_
        cases soI hvK42
        exact oNi ⟨rfl, (by first | (cbv; done) | ((repeat (cbv; simp only [c26])); first | done | cbv))⟩
      · replace hvK42 := cF c27 hvK42
        rcases tf (A.zeq x23 1) with c34 | c34
        · replace hvK42 := cT c34 hvK42
          obtain ⟨f35a, f35b, f35c⟩ := ixF hA (n := 2) c34 (by decide)
          obtain ⟨a36, e37, hvK42⟩ := bindS hvK42
          obtain ⟨f38, f39⟩ := gtI e37
          have f40 := f39
          rw [f35c] at f40
          refine DOps.cd hT hA { tk := [30] } rfl (by (repeat (cbv; simp only [c26, f35a, f35b, f35c, f40, f38, f39])); first | done | cbv) (by kernel_rfl) ?_
          cases soI hvK42
          exact oNi ⟨rfl, (by first | (cbv; done) | ((repeat (cbv; simp only [c26])); first | done | cbv))⟩
        · replace hvK42 := cF c34 hvK42
          cases hvK42
    · replace hvK42 := cF c26 hvK42
      refine DOps.cd hT hA { tk := [30] } rfl (by (repeat (cbv; simp only [c26])); first | done | cbv) (by kernel_rfl) ?_
      cases soI hvK42
      exact oNi ⟨rfl, (by first | (cbv; done) | ((repeat (cbv; simp only [c26])); first | done | cbv))⟩
  · rintro _ rfl
    refine nT ?_
    refine AWp.ret ?_
    cases soI h
    exact ⟨rfl, rfl, rfl, lb rfl, _, rfl⟩

theorem C56w {A : Ar} (hA : A = Ar.std) {x1 : List D} {x2 : List D} {x3 : Int} {x4 : Int} {x5 : Int} {x6 : Int} {x7 : Int} {x8 : Int} {x9 : Int} {x10 : Int} {x11 : Int} {x12 : Int} {x13 : Int} {x14 : Int} {x15 : Int} {x16 : Int} {x17 : Int} {x18 : Int} {x19 : Int} {x20 : Int} {x21 : List D} {x22 : List D} {v47 : List D} (h : C56 A x1 x2 x3 x4 x5 x6 x7 x8 x9 x10 x11 x12 x13 x14 x15 x16 x17 x18 x19 x20 x21 x22 = some v47) : ACall Try.prog 56 [(.iptr [(.list 1 x1), (.list 1 x2), (.int .i64 x3), (.int .i64 x4), (.int .i64 x5), (.int .i64 x6), (.int .i64 x7), (.int .i64 x8), (.int .i64 x9), (.int .i64 x10), (.int .i64 x11), (.int .i64 x12), (.int .i64 x13), (.int .i64 x14), (.int .i64 x15), (.int .i64 x16), (.int .i64 x17), (.int .i64 x18), (.int .i64 x19), (.int .i64 x20), (.list 6 x21), (.list 1 x22)])] [] (.own 1 v47) [] := by
  unfold C56 at h
  refine ACall.enter hT (fn := Try.f56) Try.func56 rfl (by decide) (by simp [Try.f56]) rfl rfl rfl rfl (lb rfl) ?_
  refine AWp.seq ?_
  refine AWp.rg hT hA {} (by cbv) (lb rfl) ?_
  refine nT ?_
  refine AWp.seq ?_
  refine AWp.rg hT hA {} (by cbv) (lb rfl) ?_
  refine nT ?_
  refine AWp.seq ?_
  refine AWp.seq ?_
  refine AWp.rg hT hA {} (by cbv) (lb rfl) ?_
  refine nT ?_
  refine AWp.block ?_
  obtain ⟨xK46, hxK46, K46, hK46, hkK46⟩ := bindK h
  refine AWp.cutX 0 [3] [] 0 (lb rfl) (fun τ => ∃ v45, K46 v45 = some v47 ∧ τ = { env := [(3, (.own 1 v45))], heap := [], n := 22 }) ?_ ?_
  · skip
    refine AWp.iter hxK46 [0, 3, 9, 10] [] 0 (lb rfl) (fun (v33, v34) => { env := [(0, (.iptr [(.list 1 x1), (.list 1 x2), (.int .i64 x3), (.int .i64 x4), (.int .i64 x5), (.int .i64 x6), (.int .i64 x7), (.int .i64 x8), (.int .i64 x9), (.int .i64 x10), (.int .i64 x11), (.int .i64 x12), (.int .i64 x13), (.int .i64 x14), (.int .i64 x15), (.int .i64 x16), (.int .i64 x17), (.int .i64 x18), (.int .i64 x19), (.int .i64 x20), (.list 6 x21), (.list 1 x22)])), (3, (.own 1 v33)), (9, (.d (.int .i64 (A.len x2)))), (10, (.d (.int .i64 v34)))], heap := [], n := 22 }) ⟨rfl, (by cbv)⟩ ?_
    rintro ⟨v33, v34⟩ eK46 hsK46
    dsimp only [C56L0] at hsK46
    refine AWp.seq ?_
    refine AWp.rg hT hA {} (by cbv) (lb rfl) ?_
    refine nT ?_
    refine AWp.seq ?_
    rcases tf (A.zlt v34 (A.len x2)) with c35 | c35
    · replace hsK46 := cT c35 hsK46
      refine AWp.cdT rfl (by first | rfl | simp only [c35, Bool.not_true, Bool.not_false, cond_true, cond_false]) ?_
      refine AWp.skip ?_
      refine nT ?_
      refine AWp.seq ?_
      refine AWp.block ?_
      refine AWp.seq ?_
      refine AWp.rg hT hA {} (by (repeat (cbv; simp only [c35])); first | done | cbv) (lb rfl) ?_
      refine nT ?_
      refine AWp.seq ?_
      refine AWp.region ?_
      obtain ⟨r37, e36, hsK46⟩ := bindS hsK46
      refine AOps.cc hT hA {} (by (repeat (cbv; simp only [c35])); first | done | cbv) (lb rfl) (C70aw hA e36) rfl (.inl rfl) rfl rfl rfl (lb rfl) rfl rfl ?_
      refine AOps.cd hT hA {} (by (repeat (cbv; simp only [c35])); first | done | cbv) (lb rfl) ?_
      refine nT ?_
      obtain ⟨v43, hvK44, hsK46⟩ := bindS hsK46
      refine AWp.cutN [0, 3, 9, 10] [] 0 (lb rfl) (fun τ => τ = { env := [(0, (.iptr [(.list 1 x1), (.list 1 x2), (.int .i64 x3), (.int .i64 x4), (.int .i64 x5), (.int .i64 x6), (.int .i64 x7), (.int .i64 x8), (.int .i64 x9), (.int .i64 x10), (.int .i64 x11), (.int .i64 x12), (.int .i64 x13), (.int .i64 x14), (.int .i64 x15), (.int .i64 x16), (.int .i64 x17), (.int .i64 x18), (.int .i64 x19), (.int .i64 x20), (.list 6 x21), (.list 1 x22)])), (3, (.own 1 v43)), (9, (.d (.int .i64 (A.len x2)))), (10, (.d (.int .i64 v34)))], heap := [], n := 22 }) ?_ ?_
      · skip
        rcases tf r37 with c38 | c38
        · replace hvK44 := cT c38 hvK44
          refine AWp.cdT rfl (by first | rfl | simp only [c35, c38, Bool.not_true, Bool.not_false, cond_true, cond_false]) ?_
          obtain ⟨l39, e40, hvK44⟩ := bindS hvK44
          obtain ⟨f41, f42⟩ := apI e40
          refine AWp.rg hT hA { tk := [3, 19] } (by (repeat (cbv; simp only [c35, c38, f41, f42])); first | done | cbv) (lb rfl) ?_
          cases soI hvK44
          exact oNi ⟨rfl, (by first | (cbv; done) | ((repeat (cbv; simp only [c35, c38])); first | done | cbv))⟩
        · replace hvK44 := cF c38 hvK44
          refine AWp.cdF rfl (by first | rfl | simp only [c35, c38, Bool.not_true, Bool.not_false, cond_true, cond_false]) ?_
          refine AWp.skip ?_
          cases soI hvK44
          exact oNi ⟨rfl, (by first | (cbv; done) | ((repeat (cbv; simp only [c35, c38])); first | done | cbv))⟩
      · rintro _ rfl
        refine nB ?_
        refine nT ?_
        refine AWp.rg hT hA {} (by cbv) (lb rfl) ?_
        exact nT ⟨_, (soI hsK46).symm, rfl, (by cbv)⟩
    · replace hsK46 := cF c35 hsK46
      refine AWp.cdF rfl (by first | rfl | simp only [c35, Bool.not_true, Bool.not_false, cond_true, cond_false]) ?_
      refine AWp.exit ?_
      refine xT ?_
      refine xT ?_
      refine exL hsK46 fun hx => ?_
      subst hx
      exact oxI ⟨rfl, _, hkK46, (by first | (cbv; done) | ((repeat (cbv; simp only [c35])); first | done | cbv))⟩
  · rintro _ ⟨v45, hkK46, rfl⟩
    have h := (hK46 _ hkK46)
    refine xB ?_
    refine nT ?_
    refine AWp.seq ?_
    refine AWp.rg hT hA { tk := [3, 21] } (by cbv) (lb rfl) ?_
    refine nT ?_
    refine AWp.ret ?_
    cases soI h
    exact ⟨rfl, rfl, rfl, lb rfl, _, rfl⟩

theorem C55w {A : Ar} (hA : A = Ar.std) {x1 : List D} {x2 : List D} {x3 : Int} {x4 : Int} {x5 : Int} {x6 : Int} {x7 : Int} {x8 : Int} {x9 : Int} {x10 : Int} {x11 : Int} {x12 : Int} {x13 : Int} {x14 : Int} {x15 : Int} {x16 : Int} {x17 : Int} {x18 : Int} {x19 : Int} {x20 : Int} {x21 : List D} {x22 : List D} {v25 : List D} (h : C55 A x1 x2 x3 x4 x5 x6 x7 x8 x9 x10 x11 x12 x13 x14 x15 x16 x17 x18 x19 x20 x21 x22 = some v25) : ACall Try.prog 55 [(.d (.agg [(.list 1 x1), (.list 1 x2), (.int .i64 x3), (.int .i64 x4), (.int .i64 x5), (.int .i64 x6), (.int .i64 x7), (.int .i64 x8), (.int .i64 x9), (.int .i64 x10), (.int .i64 x11), (.int .i64 x12), (.int .i64 x13), (.int .i64 x14), (.int .i64 x15), (.int .i64 x16), (.int .i64 x17), (.int .i64 x18), (.int .i64 x19), (.int .i64 x20), (.list 6 x21), (.list 1 x22)]))] [] (.own 1 v25) [] := by
  unfold C55 at h
  refine ACall.enter hT (fn := Try.f55) Try.func55 rfl (by decide) (by simp [Try.f55]) rfl rfl rfl rfl (lb rfl) ?_
  refine AWp.seq ?_
  refine AWp.rg hT hA {} (by cbv) (lb rfl) ?_
  refine nT ?_
  refine AWp.freezeBox 1 [(.list 1 x1), (.list 1 x2), (.int .i64 x3), (.int .i64 x4), (.int .i64 x5), (.int .i64 x6), (.int .i64 x7), (.int .i64 x8), (.int .i64 x9), (.int .i64 x10), (.int .i64 x11), (.int .i64 x12), (.int .i64 x13), (.int .i64 x14), (.int .i64 x15), (.int .i64 x16), (.int .i64 x17), (.int .i64 x18), (.int .i64 x19), (.int .i64 x20), (.list 6 x21), (.list 1 x22)] rfl rfl ?_
  refine AWp.seq ?_
  refine AWp.region ?_
  obtain ⟨r24, e23, h⟩ := bindS h
  refine AOps.cc hT hA { tk := [3] } (by cbv) (lb rfl) (C56w hA e23) rfl (.inl rfl) rfl rfl rfl (lb rfl) rfl rfl ?_
  refine AOps.cd hT hA { tk := [3] } (by cbv) (lb rfl) ?_
  refine nT ?_
  refine AWp.ret ?_
  cases soI h
  exact ⟨rfl, rfl, rfl, lb rfl, _, rfl⟩

theorem C44bw {A : Ar} (hA : A = Ar.std) {x1 : List D} {x2 : List D} {x3 : List D} {v34 : List D} {v35 : Int} (h : C44b A x1 x2 x3 = some (v34, v35)) : ACall Try.prog 44 [(.d (.list 1 x1)), (.d (.list 1 x2)), (.d (.list 1 x3)), (.func 55 [] [])] [] (.tuple [(.d (.list 1 v34)), (.d (.int .i64 v35))]) [] := by
  unfold C44b at h
  refine ACall.enter hT (fn := Try.f44) Try.func44 rfl (by decide) (by simp [Try.f44]) rfl rfl rfl rfl (lb rfl) ?_
  refine AWp.seq ?_
  refine AWp.rg hT hA {} (by cbv) (lb rfl) ?_
  refine nT ?_
  refine AWp.seq ?_
  refine AWp.seq ?_
  refine AWp.region ?_
  obtain ⟨r5, e4, h⟩ := bindS h
  refine AOps.cc hT hA {} (by cbv) (lb rfl) (C89w hA e4) rfl (.inl rfl) rfl rfl rfl (lb rfl) rfl rfl ?_
  refine AOps.cd hT hA {} (by cbv) (lb rfl) ?_
  refine nT ?_
  refine AWp.seq ?_
  refine AWp.rg hT hA {} (by cbv) (lb rfl) ?_
  refine nT ?_
  rcases tf (A.zeq r5 0) with c6 | c6
  · replace h := cT c6 h
    refine AWp.cdF rfl (by first | rfl | simp only [c6, Bool.not_true, Bool.not_false, cond_true, cond_false]) ?_
    refine AWp.skip ?_
    refine nT ?_
    refine AWp.seq ?_
    refine AWp.region ?_
    obtain ⟨⟨r8, r9, r10, r11, r12, r13, r14, r15, r16, r17, r18, r19, r20, r21, r22, r23, r24, r25, r26, r27, r28, r29, r30⟩, e7, h⟩ := bindS h
    refine AOps.cc hT hA { tk := [24] } (by (repeat (cbv; simp only [c6])); first | done | cbv) (lb rfl) (C104w hA e7) rfl (.inl rfl) rfl rfl rfl (lb rfl) rfl rfl ?_
    refine AOps.cd hT hA { tk := [24] } (by (repeat (cbv; simp only [c6])); first | done | cbv) (lb rfl) ?_
    refine nT ?_
    refine AWp.seq ?_
    refine AWp.seq ?_
    refine AWp.rg hT hA {} (by (repeat (cbv; simp only [c6])); first | done | cbv) (lb rfl) ?_
    refine nT ?_
    rcases tf r30 with c31 | c31
    · replace h := cT c31 h
      refine AWp.cdF rfl (by first | rfl | simp only [c6, c31, Bool.not_true, Bool.not_false, cond_true, cond_false]) ?_
      refine AWp.skip ?_
      refine nT ?_
      refine AWp.seq ?_
      refine AWp.region ?_
      obtain ⟨r33, e32, h⟩ := bindS h
      refine AOps.cc hT hA {} (by (repeat (cbv; simp only [c6, c31])); first | done | cbv) (lb rfl) (C55w hA e32) rfl (.inl rfl) rfl rfl rfl (lb rfl) rfl rfl ?_
      refine AOps.cd hT hA {} (by (repeat (cbv; simp only [c6, c31])); first | done | cbv) (lb rfl) ?_
      refine nT ?_
      refine AWp.ret ?_
      cases soI h
      exact ⟨rfl, rfl, rfl, lb rfl, _, rfl⟩
    · replace h := cF c31 h
      refine AWp.cdT rfl (by first | rfl | simp only [c6, c31, Bool.not_true, Bool.not_false, cond_true, cond_false]) ?_
      refine AWp.seq ?_
      refine AWp.rg hT hA {} (by (repeat (cbv; simp only [c6, c31])); first | done | cbv) (lb rfl) ?_
      refine nT ?_
      refine AWp.ret ?_
      refine rT ?_
      cases soI h
      exact ⟨rfl, rfl, rfl, lb rfl, _, rfl⟩
  · replace h := cF c6 h
    refine AWp.cdT rfl (by first | rfl | simp only [c6, Bool.not_true, Bool.not_false, cond_true, cond_false]) ?_
    refine AWp.seq ?_
    refine AWp.rg hT hA {} (by (repeat (cbv; simp only [c6])); first | done | cbv) (lb rfl) ?_
    refine nT ?_
    refine AWp.ret ?_
    refine rT ?_
    cases soI h
    exact ⟨rfl, rfl, rfl, lb rfl, _, rfl⟩

theorem C20w {A : Ar} (hA : A = Ar.std) {x1 : List D} {x2 : List D} {x3 : List D} {v7 : List D} {v8 : Int} (h : C20 A x1 x2 x3 = some (v7, v8)) : ACall Try.prog 20 [(.d (.list 1 x1)), (.d (.list 1 x2)), (.d (.list 1 x3))] [] (.tuple [(.d (.list 1 v7)), (.d (.int .i64 v8))]) [] := by
  unfold C20 at h
  refine ACall.enter hT (fn := Try.f20) Try.func20 rfl (by decide) (by simp [Try.f20]) rfl rfl rfl rfl (lb rfl) ?_
  refine AWp.seq ?_
  refine AWp.rg hT hA {} (by cbv) (lb rfl) ?_
  refine nT ?_
  refine AWp.seq ?_
  refine AWp.region ?_
  obtain ⟨⟨r5, r6⟩, e4, h⟩ := bindS h
  refine AOps.cc hT hA {} (by cbv) (lb rfl) (C44bw hA e4) rfl (.inl rfl) rfl rfl rfl (lb rfl) rfl rfl ?_
  refine AOps.cd hT hA {} (by cbv) (lb rfl) ?_
  refine nT ?_
  refine AWp.ret ?_
  cases soI h
  exact ⟨rfl, rfl, rfl, lb rfl, _, rfl⟩

theorem C113w {A : Ar} (hA : A = Ar.std) {x1 : Int} {x2 : Int} {x3 : List D} {x4 : List D} {x5 : List D} {x6 : Int} {v62 : Bool} (h : C113 A x1 x2 x3 x4 x5 x6 = some v62) : ACall Try.prog 113 [(.d (.agg [(.int .i64 x1), (.int .i64 x2), (.list 1 x3), (.list 1 x4)])), (.d (.list 1 x5)), (.d (.int .i64 x6))] [] (.d (.bool v62)) [] := by
  unfold C113 at h
  refine ACall.enter hT (fn := Try.f113) Try.func113 rfl (by decide) (by simp [Try.f113]) rfl rfl rfl rfl (lb rfl) ?_
  refine AWp.seq ?_
  refine AWp.rg hT hA {} (by cbv) (lb rfl) ?_
  refine nT ?_
  refine AWp.seq ?_
  refine AWp.seq ?_
  refine AWp.rg hT hA {} (by cbv) (lb rfl) ?_
  refine nT ?_
  rcases tf (A.zeq (A.len x5) x1) with c7 | c7
  · replace h := cT c7 h
    refine AWp.cdF rfl (by first | rfl | simp only [c7, Bool.not_true, Bool.not_false, cond_true, cond_false]) ?_
    refine AWp.skip ?_
    refine nT ?_
    refine AWp.seq ?_
    refine AWp.seq ?_
    refine AWp.rg hT hA {} (by (repeat (cbv; simp only [c7])); first | done | cbv) (lb rfl) ?_
    refine nT ?_
    refine AWp.block ?_
    obtain ⟨xK61, hxK61, K61, hK61, hkK61⟩ := bindK h
    refine AWp.cutX 0 [] [] 0 (lb rfl) (fun τ => K61 (.inl ()) = some v62 ∧ τ = { env := [], heap := [], n := 42 }) ?_ ?_
    · skip
      refine AWp.iter hxK61 [2, 3, 16, 17, 18] [] 0 (lb rfl) (fun v34 => { env := [(2, (.d (.int .i64 x6))), (3, (.lbox [(.d (.int .i64 x1)), (.d (.int .i64 x2)), (.d (.list 1 x3)), (.d (.list 1 x4))])), (16, (.d (.list 1 x5))), (17, (.d (.int .i64 (A.len x5)))), (18, (.d (.int .i64 v34)))], heap := [], n := 42 }) ⟨rfl, (by first | (cbv; done) | ((repeat (cbv; simp only [c7])); first | done | cbv))⟩ ?_
      rintro v34 eK61 hsK61
      dsimp only [C113L1] at hsK61
      refine AWp.seq ?_
      refine AWp.rg hT hA {} (by cbv) (lb rfl) ?_
      refine nT ?_
      refine AWp.seq ?_
      rcases tf (A.zlt v34 (A.len x5)) with c35 | c35
      · replace hsK61 := cT c35 hsK61
        refine AWp.cdT rfl (by first | rfl | simp only [c35, Bool.not_true, Bool.not_false, cond_true, cond_false]) ?_
        refine AWp.skip ?_
        refine nT ?_
        refine AWp.seq ?_
        refine AWp.block ?_
        refine AWp.seq ?_
        obtain ⟨a36, e37, hsK61⟩ := bindS hsK61
        obtain ⟨f38, f39⟩ := gtI e37
        refine AWp.rg hT hA {} (by (repeat (cbv; simp only [c35, f38, f39])); first | done | cbv) (lb rfl) ?_
        refine nT ?_
        refine AWp.seq ?_
        refine AWp.seq ?_
        refine AWp.rg hT hA {} (by (repeat (cbv; simp only [c35])); first | done | cbv) (lb rfl) ?_
        refine nT ?_
        rcases tf (A.zeq (A.len a36) x2) with c40 | c40
        · replace hsK61 := cT c40 hsK61
          refine AWp.cdF rfl (by first | rfl | simp only [c35, c40, Bool.not_true, Bool.not_false, cond_true, cond_false]) ?_
          refine AWp.skip ?_
          refine nT ?_
          refine AWp.seq ?_
          refine AWp.rg hT hA {} (by (repeat (cbv; simp only [c35, c40])); first | done | cbv) (lb rfl) ?_
          refine nT ?_
          refine AWp.block ?_
          obtain ⟨xK60, hxK60, K60, hK60, hkK60⟩ := bindK hsK61
          refine AWp.cutX 2 [2, 3, 16, 17, 18] [] 0 (lb rfl) (fun τ => K60 (.inl ()) = some eK61 ∧ τ = { env := [(2, (.d (.int .i64 x6))), (3, (.lbox [(.d (.int .i64 x1)), (.d (.int .i64 x2)), (.d (.list 1 x3)), (.d (.list 1 x4))])), (16, (.d (.list 1 x5))), (17, (.d (.int .i64 (A.len x5)))), (18, (.d (.int .i64 v34)))], heap := [], n := 42 }) ?_ ?_
          · skip
            refine AWp.iter hxK60 [2, 3, 16, 17, 18, 27, 28, 29] [] 0 (lb rfl) (fun v50 => { env := [(2, (.d (.int .i64 x6))), (3, (.lbox [(.d (.int .i64 x1)), (.d (.int .i64 x2)), (.d (.list 1 x3)), (.d (.list 1 x4))])), (16, (.d (.list 1 x5))), (17, (.d (.int .i64 (A.len x5)))), (18, (.d (.int .i64 v34))), (27, (.d (.list 1 a36))), (28, (.d (.int .i64 (A.len a36)))), (29, (.d (.int .i64 v50)))], heap := [], n := 42 }) ⟨rfl, (by first | (cbv; done) | ((repeat (cbv; simp only [c35, c40])); first | done | cbv))⟩ ?_
            rintro v50 eK60 hsK60
            dsimp only [C113L0] at hsK60
            refine AWp.seq ?_
            refine AWp.rg hT hA {} (by cbv) (lb rfl) ?_
            refine nT ?_
            refine AWp.seq ?_
            rcases tf (A.zlt v50 (A.len a36)) with c51 | c51
            · replace hsK60 := cT c51 hsK60
              refine AWp.cdT rfl (by first | rfl | simp only [c51, Bool.not_true, Bool.not_false, cond_true, cond_false]) ?_
              refine AWp.skip ?_
              refine nT ?_
              refine AWp.seq ?_
              refine AWp.block ?_
              refine AWp.seq ?_
              obtain ⟨a52, e53, hsK60⟩ := bindS hsK60
              obtain ⟨f54, f55⟩ := gtI e53
              refine AWp.rg hT hA {} (by (repeat (cbv; simp only [c51, f54, f55])); first | done | cbv) (lb rfl) ?_
              refine nT ?_
              refine AWp.seq ?_
              obtain ⟨v57, hvK58, hsK60⟩ := bindS hsK60
              refine AWp.cutN [2, 3, 16, 17, 18, 27, 28, 29, 39] [] 0 (lb rfl) (fun τ => τ = { env := [(2, (.d (.int .i64 x6))), (3, (.lbox [(.d (.int .i64 x1)), (.d (.int .i64 x2)), (.d (.list 1 x3)), (.d (.list 1 x4))])), (16, (.d (.list 1 x5))), (17, (.d (.int .i64 (A.len x5)))), (18, (.d (.int .i64 v34))), (27, (.d (.list 1 a36))), (28, (.d (.int .i64 (A.len a36)))), (29, (.d (.int .i64 v50))), (39, (.d (.bool v57)))], heap := [], n := 42 }) ?_ ?_
              · skip
                rcases tf (A.zlt a52 0) with c56 | c56
                · replace hvK58 := cT c56 hvK58
                  refine AWp.rg hT hA {} (by (repeat (cbv; simp only [c51, c56])); first | done | cbv) (lb rfl) ?_
                  cases soI hvK58
                  exact oNi ⟨rfl, (by first | (cbv; done) | ((repeat (cbv; simp only [c51, c56])); first | done | cbv))⟩
                · replace hvK58 := cF c56 hvK58
                  refine AWp.rg hT hA {} (by (repeat (cbv; simp only [c51, c56])); first | done | cbv) (lb rfl) ?_
                  cases soI hvK58
                  exact oNi ⟨rfl, (by first | (cbv; done) | ((repeat (cbv; simp only [c51, c56])); first | done | cbv))⟩
              · rintro _ rfl
                refine nT ?_
                rcases tf v57 with c59 | c59
                · replace hsK60 := cT c59 hsK60
                  refine AWp.cdT rfl (by first | rfl | simp only [c59, Bool.not_true, Bool.not_false, cond_true, cond_false]) ?_
                  refine AWp.seq ?_
                  refine AWp.rg hT hA {} (by (repeat (cbv; simp only [c59])); first | done | cbv) (lb rfl) ?_
                  refine nT ?_
                  refine AWp.ret ?_
                  refine rB ?_
                  refine rT ?_
                  refine rT ?_
                  refine exL hsK60 fun hx => ?_
                  subst hx
                  refine oxR ?_
                  replace hkK60 := (eR (hK60 _ hkK60))
                  refine rB ?_
                  refine rB ?_
                  refine rT ?_
                  refine rT ?_
                  refine exL hkK60 fun hx => ?_
                  subst hx
                  refine oxR ?_
                  replace hkK61 := (eR (hK61 _ hkK61))
                  refine rB ?_
                  refine rT ?_
                  cases soI hkK61
                  exact ⟨rfl, rfl, rfl, lb rfl, _, rfl⟩
                · replace hsK60 := cF c59 hsK60
                  refine AWp.cdF rfl (by first | rfl | simp only [c59, Bool.not_true, Bool.not_false, cond_true, cond_false]) ?_
                  refine AWp.skip ?_
                  refine nB ?_
                  refine nT ?_
                  refine AWp.rg hT hA {} (by (repeat (cbv; simp only [c59])); first | done | cbv) (lb rfl) ?_
                  exact nT ⟨_, (soI hsK60).symm, rfl, (by first | (cbv; done) | ((repeat (cbv; simp only [c59])); first | done | cbv))⟩
            · replace hsK60 := cF c51 hsK60
              refine AWp.cdF rfl (by first | rfl | simp only [c51, Bool.not_true, Bool.not_false, cond_true, cond_false]) ?_
              refine AWp.exit ?_
              refine xT ?_
              refine xT ?_
              refine exL hsK60 fun hx => ?_
              subst hx
              exact oxI ⟨rfl, hkK60, (by first | (cbv; done) | ((repeat (cbv; simp only [c51])); first | done | cbv))⟩
          · rintro _ ⟨hkK60, rfl⟩
            have hsK61 := (eL (hK60 _ hkK60))
            refine xB ?_
            refine nB ?_
            refine nT ?_
            refine AWp.rg hT hA {} (by cbv) (lb rfl) ?_
            exact nT ⟨_, (soI hsK61).symm, rfl, (by cbv)⟩
        · replace hsK61 := cF c40 hsK61
          refine AWp.cdT rfl (by first | rfl | simp only [c35, c40, Bool.not_true, Bool.not_false, cond_true, cond_false]) ?_
          refine AWp.seq ?_
          refine AWp.rg hT hA {} (by (repeat (cbv; simp only [c35, c40])); first | done | cbv) (lb rfl) ?_
          refine nT ?_
          refine AWp.ret ?_
          refine rT ?_
          refine rB ?_
          refine rT ?_
          refine rT ?_
          refine exL hsK61 fun hx => ?_
          subst hx
          refine oxR ?_
          replace hkK61 := (eR (hK61 _ hkK61))
          refine rB ?_
          refine rT ?_
          cases soI hkK61
          exact ⟨rfl, rfl, rfl, lb rfl, _, rfl⟩
      · replace hsK61 := cF c35 hsK61
        refine AWp.cdF rfl (by first | rfl | simp only [c35, Bool.not_true, Bool.not_false, cond_true, cond_false]) ?_
        refine AWp.exit ?_
        refine xT ?_
        refine xT ?_
        refine exL hsK61 fun hx => ?_
        subst hx
        exact oxI ⟨rfl, hkK61, (by first | (cbv; done) | ((repeat (cbv; simp only [c35])); first | done | cbv))⟩
    · rintro _ ⟨hkK61, rfl⟩
      have h := (eL (hK61 _ hkK61))
      refine xB ?_
      refine nT ?_
      refine AWp.seq ?_
      refine AWp.rg hT hA {} (by cbv) (lb rfl) ?_
      refine nT ?_
      refine AWp.ret ?_
      cases soI h
      exact ⟨rfl, rfl, rfl, lb rfl, _, rfl⟩
  · replace h := cF c7 h
    refine AWp.cdT rfl (by first | rfl | simp only [c7, Bool.not_true, Bool.not_false, cond_true, cond_false]) ?_
    refine AWp.seq ?_
    refine AWp.rg hT hA {} (by (repeat (cbv; simp only [c7])); first | done | cbv) (lb rfl) ?_
    refine nT ?_
    refine AWp.ret ?_
    refine rT ?_
    cases soI h
    exact ⟨rfl, rfl, rfl, lb rfl, _, rfl⟩

theorem C58w {A : Ar} (hA : A = Ar.std) {x1 : Int} {x2 : Int} {x3 : List D} {x4 : List D} {v16 : Bool} (h : C58 A x1 x2 x3 x4 = some v16) : ACall Try.prog 58 [(.d (.agg [(.int .i64 x1), (.int .i64 x2), (.list 1 x3), (.list 1 x4)]))] [] (.d (.bool v16)) [] := by
  unfold C58 at h
  refine ACall.enter hT (fn := Try.f58) Try.func58 rfl (by decide) (by simp [Try.f58]) rfl rfl rfl rfl (lb rfl) ?_
  refine AWp.seq ?_
  refine AWp.rg hT hA {} (by cbv) (lb rfl) ?_
  refine nT ?_
  refine AWp.seq ?_
  obtain ⟨v14, hvK15, h⟩ := bindS h
  refine AWp.cutN [2] [] 0 (lb rfl) (fun τ => τ = { env := [(2, (.d (.bool v14)))], heap := [], n := 35 }) ?_ ?_
  · skip
    refine AWp.region ?_
    rcases tf (A.zle 1 x1) with c5 | c5
    · replace hvK15 := cT c5 hvK15
      rcases tf (A.zle x1 8) with c6 | c6
      · replace hvK15 := cT c6 hvK15
        rcases tf (A.zle 1 x2) with c7 | c7
        · replace hvK15 := cT c7 hvK15
          rcases tf (A.zle x2 4) with c8 | c8
          · replace hvK15 := cT c8 hvK15
            obtain ⟨r10, e9, hvK15⟩ := bindS hvK15
            refine AOps.cc hT hA { tk := [34] } (by (repeat (cbv; simp only [c5, c6, c7, c8])); first | done | cbv) (lb rfl) (C113w hA e9) rfl (.inl rfl) rfl rfl rfl (lb rfl) rfl rfl ?_
            rcases tf r10 with c11 | c11
            · replace hvK15 := cT c11 hvK15
              obtain ⟨r13, e12, hvK15⟩ := bindS hvK15
              refine AOps.cc hT hA { tk := [34] } (by (repeat (cbv; simp only [c5, c6, c7, c8, c11])); first | done | cbv) (lb rfl) (C113w hA e12) rfl (.inl rfl) rfl rfl rfl (lb rfl) rfl rfl ?_
              refine AOps.cd hT hA { tk := [34] } (by (repeat (cbv; simp only [c5, c6, c7, c8, c11])); first | done | cbv) (lb rfl) ?_
              cases soI hvK15
              exact oNi ⟨rfl, (by first | (cbv; done) | ((repeat (cbv; simp only [c5, c6, c7, c8, c11])); first | done | cbv))⟩
            · replace hvK15 := cF c11 hvK15
              refine AOps.cd hT hA { tk := [34] } (by (repeat (cbv; simp only [c5, c6, c7, c8, c11])); first | done | cbv) (lb rfl) ?_
              cases soI hvK15
              exact oNi ⟨rfl, (by first | (cbv; done) | ((repeat (cbv; simp only [c5, c6, c7, c8, c11])); first | done | cbv))⟩
          · replace hvK15 := cF c8 hvK15
            refine AOps.cd hT hA { tk := [34] } (by (repeat (cbv; simp only [c5, c6, c7, c8])); first | done | cbv) (lb rfl) ?_
            cases soI hvK15
            exact oNi ⟨rfl, (by first | (cbv; done) | ((repeat (cbv; simp only [c5, c6, c7, c8])); first | done | cbv))⟩
        · replace hvK15 := cF c7 hvK15
          refine AOps.cd hT hA { tk := [34] } (by (repeat (cbv; simp only [c5, c6, c7])); first | done | cbv) (lb rfl) ?_
          cases soI hvK15
          exact oNi ⟨rfl, (by first | (cbv; done) | ((repeat (cbv; simp only [c5, c6, c7])); first | done | cbv))⟩
      · replace hvK15 := cF c6 hvK15
        refine AOps.cd hT hA { tk := [34] } (by (repeat (cbv; simp only [c5, c6])); first | done | cbv) (lb rfl) ?_
        cases soI hvK15
        exact oNi ⟨rfl, (by first | (cbv; done) | ((repeat (cbv; simp only [c5, c6])); first | done | cbv))⟩
    · replace hvK15 := cF c5 hvK15
      refine AOps.cd hT hA { tk := [34] } (by (repeat (cbv; simp only [c5])); first | done | cbv) (lb rfl) ?_
      cases soI hvK15
      exact oNi ⟨rfl, (by first | (cbv; done) | ((repeat (cbv; simp only [c5])); first | done | cbv))⟩
  · rintro _ rfl
    refine nT ?_
    refine AWp.ret ?_
    cases soI h
    exact ⟨rfl, rfl, rfl, lb rfl, _, rfl⟩

theorem C23w {A : Ar} (hA : A = Ar.std) {x1 : Int} {x2 : Int} {x3 : List D} {x4 : List D} {x5 : List D} {x6 : List D} {v21 : Bool} (h : C23 A x1 x2 x3 x4 x5 x6 = some v21) : ACall Try.prog 23 [(.d (.agg [(.int .i64 x1), (.int .i64 x2), (.list 1 x3), (.list 1 x4), (.list 1 x5), (.list 1 x6)]))] [] (.d (.bool v21)) [] := by
  unfold C23 at h
  refine ACall.enter hT (fn := Try.f23) Try.func23 rfl (by decide) (by simp [Try.f23]) rfl rfl rfl rfl (lb rfl) ?_
  refine AWp.seq ?_
  refine AWp.rg hT hA {} (by cbv) (lb rfl) ?_
  refine nT ?_
  refine AWp.seq ?_
  obtain ⟨v19, hvK20, h⟩ := bindS h
  refine AWp.cutN [2] [] 0 (lb rfl) (fun τ => τ = { env := [(2, (.d (.bool v19)))], heap := [], n := 32 }) ?_ ?_
  · skip
    refine AWp.region ?_
    obtain ⟨r8, e7, hvK20⟩ := bindS hvK20
    refine AOps.cc hT hA { tk := [31] } (by cbv) (lb rfl) (C9w hA e7) rfl (.inl rfl) rfl rfl rfl (lb rfl) rfl rfl ?_
    rcases tf r8 with c9 | c9
    · replace hvK20 := cT c9 hvK20
      refine AOps.cd hT hA { tk := [31] } (by (repeat (cbv; simp only [c9])); first | done | cbv) (lb rfl) ?_
      cases soI hvK20
      exact oNi ⟨rfl, (by first | (cbv; done) | ((repeat (cbv; simp only [c9])); first | done | cbv))⟩
    · replace hvK20 := cF c9 hvK20
      obtain ⟨r11, e10, hvK20⟩ := bindS hvK20
      refine AOps.cc hT hA { tk := [31] } (by (repeat (cbv; simp only [c9])); first | done | cbv) (lb rfl) (C16w hA e10) rfl (.inl rfl) rfl rfl rfl (lb rfl) rfl rfl ?_
      rcases tf r11 with c12 | c12
      · replace hvK20 := cT c12 hvK20
        obtain ⟨r14, e13, hvK20⟩ := bindS hvK20
        refine AOps.cc hT hA { tk := [31] } (by (repeat (cbv; simp only [c9, c12])); first | done | cbv) (lb rfl) (C58w hA e13) rfl (.inl rfl) rfl rfl rfl (lb rfl) rfl rfl ?_
        rcases tf r14 with c15 | c15
        · replace hvK20 := cT c15 hvK20
          rcases tf (A.zeq x2 (A.len x5)) with c16 | c16
          · replace hvK20 := cT c16 hvK20
            obtain ⟨r18, e17, hvK20⟩ := bindS hvK20
            refine AOps.cc hT hA { tk := [31] } (by (repeat (cbv; simp only [c9, c12, c15, c16])); first | done | cbv) (lb rfl) (C43w hA e17) rfl (.inl rfl) rfl rfl rfl (lb rfl) rfl rfl ?_
            refine AOps.cd hT hA { tk := [31] } (by (repeat (cbv; simp only [c9, c12, c15, c16])); first | done | cbv) (lb rfl) ?_
            cases soI hvK20
            exact oNi ⟨rfl, (by first | (cbv; done) | ((repeat (cbv; simp only [c9, c12, c15, c16])); first | done | cbv))⟩
          · replace hvK20 := cF c16 hvK20
            refine AOps.cd hT hA { tk := [31] } (by (repeat (cbv; simp only [c9, c12, c15, c16])); first | done | cbv) (lb rfl) ?_
            cases soI hvK20
            exact oNi ⟨rfl, (by first | (cbv; done) | ((repeat (cbv; simp only [c9, c12, c15, c16])); first | done | cbv))⟩
        · replace hvK20 := cF c15 hvK20
          refine AOps.cd hT hA { tk := [31] } (by (repeat (cbv; simp only [c9, c12, c15])); first | done | cbv) (lb rfl) ?_
          cases soI hvK20
          exact oNi ⟨rfl, (by first | (cbv; done) | ((repeat (cbv; simp only [c9, c12, c15])); first | done | cbv))⟩
      · replace hvK20 := cF c12 hvK20
        refine AOps.cd hT hA { tk := [31] } (by (repeat (cbv; simp only [c9, c12])); first | done | cbv) (lb rfl) ?_
        cases soI hvK20
        exact oNi ⟨rfl, (by first | (cbv; done) | ((repeat (cbv; simp only [c9, c12])); first | done | cbv))⟩
  · rintro _ rfl
    refine nT ?_
    refine AWp.ret ?_
    cases soI h
    exact ⟨rfl, rfl, rfl, lb rfl, _, rfl⟩

theorem C24w {A : Ar} (hA : A = Ar.std) {x1 : Int} {x2 : Int} {x3 : List D} {x4 : List D} {x5 : List D} {x6 : List D} {x7 : List D} {x8 : Int} {v79 : List D} {v80 : Bool} {v81 : Bool} (h : C24 A x1 x2 x3 x4 x5 x6 x7 x8 = some (v79, v80, v81)) : ACall Try.prog 24 [(.d (.agg [(.int .i64 x1), (.int .i64 x2), (.list 1 x3), (.list 1 x4), (.list 1 x5), (.list 1 x6)])), (.d (.list 1 x7)), (.d (.int .i64 x8))] [] (.tuple [(.d (.list 1 v79)), (.d (.bool v80)), (.d (.bool v81))]) [] := by
  unfold C24 at h
  refine ACall.enter hT (fn := Try.f24) Try.func24 rfl (by decide) (by simp [Try.f24]) rfl rfl rfl rfl (lb rfl) ?_
  refine AWp.seq ?_
  refine AWp.rg hT hA {} (by cbv) (lb rfl) ?_
  refine nT ?_
  refine AWp.seq ?_
  refine AWp.seq ?_
  refine AWp.rg hT hA {} (by cbv) (lb rfl) ?_
  refine nT ?_
  refine AWp.block ?_
  obtain ⟨xK75, hxK75, K75, hK75, hkK75⟩ := bindK h
  refine AWp.cutX 0 [3, 6] [] 0 (lb rfl) (fun τ => ∃ v71, K75 (.inl v71) = some (v79, v80, v81) ∧ τ = { env := [(3, (.lbox [(.d (.int .i64 x1)), (.d (.int .i64 x2)), (.d (.list 1 x3)), (.d (.list 1 x4)), (.d (.list 1 x5)), (.d (.list 1 x6))])), (6, (.own 1 v71))], heap := [], n := 81 }) ?_ ?_
  · skip
    refine AWp.iter hxK75 [1, 2, 3, 6, 9] [] 0 (lb rfl) (fun (v39, v40) => { env := [(1, (.d (.list 1 x7))), (2, (.d (.int .i64 x8))), (3, (.lbox [(.d (.int .i64 x1)), (.d (.int .i64 x2)), (.d (.list 1 x3)), (.d (.list 1 x4)), (.d (.list 1 x5)), (.d (.list 1 x6))])), (6, (.own 1 v39)), (9, (.d (.int .i64 v40)))], heap := [], n := 81 }) ⟨rfl, (by cbv)⟩ ?_
    rintro ⟨v39, v40⟩ eK75 hsK75
    dsimp only [C24L0] at hsK75
    refine AWp.seq ?_
    refine AWp.seq ?_
    refine AWp.rg hT hA {} (by cbv) (lb rfl) ?_
    refine nT ?_
    rcases tf (A.zlt v40 x8) with c41 | c41
    · replace hsK75 := cT c41 hsK75
      refine AWp.cdT rfl (by first | rfl | simp only [c41, Bool.not_true, Bool.not_false, cond_true, cond_false]) ?_
      refine AWp.skip ?_
      refine nT ?_
      refine AWp.seq ?_
      refine AWp.block ?_
      refine AWp.seq ?_
      refine AWp.region ?_
      obtain ⟨⟨r43, r44⟩, e42, hsK75⟩ := bindS hsK75
      refine AOps.cc hT hA {} (by (repeat (cbv; simp only [c41])); first | done | cbv) (lb rfl) (C20w hA e42) rfl (.inl rfl) rfl rfl rfl (lb rfl) rfl rfl ?_
      refine AOps.cd hT hA {} (by (repeat (cbv; simp only [c41])); first | done | cbv) (lb rfl) ?_
      refine nT ?_
      refine AWp.seq ?_
      refine AWp.seq ?_
      refine AWp.rg hT hA {} (by (repeat (cbv; simp only [c41])); first | done | cbv) (lb rfl) ?_
      refine nT ?_
      rcases tf (A.zeq r44 0) with c45 | c45
      · replace hsK75 := cT c45 hsK75
        refine AWp.cdF rfl (by first | rfl | simp only [c41, c45, Bool.not_true, Bool.not_false, cond_true, cond_false]) ?_
        refine AWp.skip ?_
        refine nT ?_
        refine AWp.seq ?_
        refine AWp.seq ?_
        refine AWp.rg hT hA {} (by (repeat (cbv; simp only [c41, c45])); first | done | cbv) (lb rfl) ?_
        refine nT ?_
        rcases tf (A.zeq (A.len r43) 0) with c46 | c46
        · replace hsK75 := cT c46 hsK75
          refine AWp.cdT rfl (by first | rfl | simp only [c41, c45, c46, Bool.not_true, Bool.not_false, cond_true, cond_false]) ?_
          refine AWp.seq ?_
          refine AWp.rg hT hA { tk := [6, 34] } (by (repeat (cbv; simp only [c41, c45, c46])); first | done | cbv) (lb rfl) ?_
          refine nT ?_
          refine AWp.ret ?_
          refine rT ?_
          refine rB ?_
          refine rT ?_
          refine rT ?_
          refine exL hsK75 fun hx => ?_
          subst hx
          refine oxR ?_
          replace hkK75 := (eR (hK75 _ hkK75))
          refine rB ?_
          refine rT ?_
          cases soI hkK75
          exact ⟨rfl, rfl, rfl, lb rfl, _, rfl⟩
        · replace hsK75 := cF c46 hsK75
          refine AWp.cdF rfl (by first | rfl | simp only [c41, c45, c46, Bool.not_true, Bool.not_false, cond_true, cond_false]) ?_
          refine AWp.skip ?_
          refine nT ?_
          refine AWp.seq ?_
          obtain ⟨a47, e48, hsK75⟩ := bindS hsK75
          have f49 := gcI e48
          refine AWp.rg hT hA {} (by (repeat (cbv; simp only [c41, c45, c46, f49])); first | done | cbv) (lb rfl) ?_
          refine nT ?_
          refine AWp.seq ?_
          refine AWp.seq ?_
          refine AWp.rg hT hA {} (by (repeat (cbv; simp only [c41, c45, c46])); first | done | cbv) (lb rfl) ?_
          refine nT ?_
          obtain ⟨v61, hvK62, hsK75⟩ := bindS hsK75
          refine AWp.cutN [1, 2, 3, 6, 9, 12] [] 0 (lb rfl) (fun τ => τ = { env := [(1, (.d (.list 1 x7))), (2, (.d (.int .i64 x8))), (3, (.lbox [(.d (.int .i64 x1)), (.d (.int .i64 x2)), (.d (.list 1 x3)), (.d (.list 1 x4)), (.d (.list 1 x5)), (.d (.list 1 x6))])), (6, (.own 1 v39)), (9, (.d (.int .i64 v40))), (12, (.d (.int .i64 v61)))], heap := [], n := 81 }) ?_ ?_
          · skip
            rcases tf (A.zlt v40 (A.len x7)) with c50 | c50
            · replace hvK62 := cT c50 hvK62
              refine AWp.cdT rfl (by first | rfl | simp only [c41, c45, c46, c50, Bool.not_true, Bool.not_false, cond_true, cond_false]) ?_
              obtain ⟨a51, e52, hvK62⟩ := bindS hvK62
              obtain ⟨f53, f54⟩ := gtI e52
              obtain ⟨_, e55, hvK62⟩ := bindS hvK62
              have f56 := nkI e55
              obtain ⟨a57, e58, hvK62⟩ := bindS hvK62
              obtain ⟨f59, f60⟩ := gtI e58
              refine AWp.rg hT hA {} (by (repeat (cbv; simp only [c41, c45, c46, c50, f53, f54, f56, f59, f60])); first | done | cbv) (lb rfl) ?_
              cases soI hvK62
              exact oNi ⟨rfl, (by first | (cbv; done) | ((repeat (cbv; simp only [c41, c45, c46, c50])); first | done | cbv))⟩
            · replace hvK62 := cF c50 hvK62
              refine AWp.cdF rfl (by first | rfl | simp only [c41, c45, c46, c50, Bool.not_true, Bool.not_false, cond_true, cond_false]) ?_
              refine AWp.skip ?_
              cases soI hvK62
              exact oNi ⟨rfl, (by first | (cbv; done) | ((repeat (cbv; simp only [c41, c45, c46, c50])); first | done | cbv))⟩
          · rintro _ rfl
            refine nT ?_
            refine AWp.seq ?_
            refine AWp.seq ?_
            obtain ⟨v64, hvK65, hsK75⟩ := bindS hsK75
            refine AWp.cutN [1, 2, 3, 6, 9, 12, 61] [] 0 (lb rfl) (fun τ => τ = { env := [(1, (.d (.list 1 x7))), (2, (.d (.int .i64 x8))), (3, (.lbox [(.d (.int .i64 x1)), (.d (.int .i64 x2)), (.d (.list 1 x3)), (.d (.list 1 x4)), (.d (.list 1 x5)), (.d (.list 1 x6))])), (6, (.own 1 v39)), (9, (.d (.int .i64 v40))), (12, (.d (.int .i64 v61))), (61, (.d (.bool v64)))], heap := [], n := 81 }) ?_ ?_
            · skip
              rcases tf (A.zlt v61 0) with c63 | c63
              · replace hvK65 := cT c63 hvK65
                refine AWp.rg hT hA {} (by (repeat (cbv; simp only [c63])); first | done | cbv) (lb rfl) ?_
                cases soI hvK65
                exact oNi ⟨rfl, (by first | (cbv; done) | ((repeat (cbv; simp only [c63])); first | done | cbv))⟩
              · replace hvK65 := cF c63 hvK65
                refine AWp.rg hT hA {} (by (repeat (cbv; simp only [c63])); first | done | cbv) (lb rfl) ?_
                cases soI hvK65
                exact oNi ⟨rfl, (by first | (cbv; done) | ((repeat (cbv; simp only [c63])); first | done | cbv))⟩
            · rintro _ rfl
              refine nT ?_
              rcases tf v64 with c66 | c66
              · replace hsK75 := cT c66 hsK75
                refine AWp.cdT rfl (by first | rfl | simp only [c66, Bool.not_true, Bool.not_false, cond_true, cond_false]) ?_
                refine AWp.seq ?_
                refine AWp.rg hT hA {} (by (repeat (cbv; simp only [c66])); first | done | cbv) (lb rfl) ?_
                refine nT ?_
                refine AWp.ret ?_
                refine rT ?_
                refine rB ?_
                refine rT ?_
                refine rT ?_
                refine exL hsK75 fun hx => ?_
                subst hx
                refine oxR ?_
                replace hkK75 := (eR (hK75 _ hkK75))
                refine rB ?_
                refine rT ?_
                cases soI hkK75
                exact ⟨rfl, rfl, rfl, lb rfl, _, rfl⟩
              · replace hsK75 := cF c66 hsK75
                refine AWp.cdF rfl (by first | rfl | simp only [c66, Bool.not_true, Bool.not_false, cond_true, cond_false]) ?_
                refine AWp.skip ?_
                refine nT ?_
                obtain ⟨l67, e68, hsK75⟩ := bindS hsK75
                obtain ⟨f69, f70⟩ := apI e68
                refine AWp.rg hT hA { tk := [6, 65] } (by (repeat (cbv; simp only [c66, f69, f70])); first | done | cbv) (lb rfl) ?_
                refine nB ?_
                refine nT ?_
                refine AWp.rg hT hA {} (by (repeat (cbv; simp only [c66])); first | done | cbv) (lb rfl) ?_
                exact nT ⟨_, (soI hsK75).symm, rfl, (by first | (cbv; done) | ((repeat (cbv; simp only [c66])); first | done | cbv))⟩
      · replace hsK75 := cF c45 hsK75
        refine AWp.cdT rfl (by first | rfl | simp only [c41, c45, Bool.not_true, Bool.not_false, cond_true, cond_false]) ?_
        refine AWp.seq ?_
        refine AWp.rg hT hA {} (by (repeat (cbv; simp only [c41, c45])); first | done | cbv) (lb rfl) ?_
        refine nT ?_
        refine AWp.ret ?_
        refine rT ?_
        refine rB ?_
        refine rT ?_
        refine rT ?_
        refine exL hsK75 fun hx => ?_
        subst hx
        refine oxR ?_
        replace hkK75 := (eR (hK75 _ hkK75))
        refine rB ?_
        refine rT ?_
        cases soI hkK75
        exact ⟨rfl, rfl, rfl, lb rfl, _, rfl⟩
    · replace hsK75 := cF c41 hsK75
      refine AWp.cdF rfl (by first | rfl | simp only [c41, Bool.not_true, Bool.not_false, cond_true, cond_false]) ?_
      refine AWp.exit ?_
      refine xT ?_
      refine xT ?_
      refine exL hsK75 fun hx => ?_
      subst hx
      exact oxI ⟨rfl, _, hkK75, (by first | (cbv; done) | ((repeat (cbv; simp only [c41])); first | done | cbv))⟩
  · rintro _ ⟨v71, hkK75, rfl⟩
    have h := (eL (hK75 _ hkK75))
    refine xB ?_
    refine nT ?_
    refine AWp.seq ?_
    refine AWp.region ?_
    obtain ⟨⟨r77, r78⟩, e76, h⟩ := bindS h
    refine AOps.cc hT hA {} (by cbv) (lb rfl) (C20w hA e76) rfl (.inl rfl) rfl rfl rfl (lb rfl) rfl rfl ?_
    refine AOps.cd hT hA {} (by cbv) (lb rfl) ?_
    refine nT ?_
    refine AWp.seq ?_
    refine AWp.rg hT hA { tk := [6, 75] } (by cbv) (lb rfl) ?_
    refine nT ?_
    refine AWp.ret ?_
    cases soI h
    exact ⟨rfl, rfl, rfl, lb rfl, _, rfl⟩

theorem C61w {A : Ar} (hA : A = Ar.std) {x1 : Int} {x2 : Int} {x3 : Int} {v7 : Bool} (h : C61 A x1 x2 x3 = some v7) : ACall Try.prog 61 [(.d (.int .i64 x1)), (.d (.int .i64 x2)), (.d (.int .i64 x3))] [] (.d (.bool v7)) [] := by
  unfold C61 at h
  refine ACall.enter hT (fn := Try.f61) Try.func61 rfl (by decide) (by simp [Try.f61]) rfl rfl rfl rfl (lb rfl) ?_
  refine AWp.seq ?_
  refine AWp.rg hT hA {} (by cbv) (lb rfl) ?_
  refine nT ?_
  refine AWp.seq ?_
  obtain ⟨v5, hvK6, h⟩ := bindS h
  refine AWp.cutN [6] [] 0 (lb rfl) (fun τ => τ = { env := [(6, (.d (.bool v5)))], heap := [], n := 15 }) ?_ ?_
  · skip
    rcases tf (A.zle x1 x2) with c4 | c4
    · replace hvK6 := cT c4 hvK6
      refine AWp.rg hT hA { tk := [14] } (by (repeat (cbv; simp only [c4])); first | done | cbv) (lb rfl) ?_
      cases soI hvK6
      exact oNi ⟨rfl, (by first | (cbv; done) | ((repeat (cbv; simp only [c4])); first | done | cbv))⟩
    · replace hvK6 := cF c4 hvK6
      refine AWp.rg hT hA { tk := [14] } (by (repeat (cbv; simp only [c4])); first | done | cbv) (lb rfl) ?_
      cases soI hvK6
      exact oNi ⟨rfl, (by first | (cbv; done) | ((repeat (cbv; simp only [c4])); first | done | cbv))⟩
  · rintro _ rfl
    refine nT ?_
    refine AWp.ret ?_
    cases soI h
    exact ⟨rfl, rfl, rfl, lb rfl, _, rfl⟩

theorem C139w {A : Ar} (hA : A = Ar.std) {x1 : Int} {x2 : Int} {x3 : Int} {x4 : Int} {x5 : Int} {x6 : Int} {v33 : Bool} (h : C139 A x1 x2 x3 x4 x5 x6 = some v33) : ACall Try.prog 139 [(.d (.agg [(.int .i64 x1), (.int .i64 x2), (.int .i64 x3), (.int .i64 x4), (.int .i64 x5), (.int .i64 x6)]))] [] (.d (.bool v33)) [] := by
  unfold C139 at h
  refine ACall.enter hT (fn := Try.f139) Try.func139 rfl (by decide) (by simp [Try.f139]) rfl rfl rfl rfl (lb rfl) ?_
  refine AWp.seq ?_
  refine AWp.rg hT hA {} (by cbv) (lb rfl) ?_
  refine nT ?_
  refine AWp.seq ?_
  obtain ⟨v21, hvK22, h⟩ := bindS h
  refine AWp.cutN [1, 3] [] 0 (lb rfl) (fun τ => τ = { env := [(1, (.lbox [(.d (.int .i64 x1)), (.d (.int .i64 x2)), (.d (.int .i64 x3)), (.d (.int .i64 x4)), (.d (.int .i64 x5)), (.d (.int .i64 x6))])), (3, (.d (.bool v21)))], heap := [], n := 49 }) ?_ ?_
  · skip
    refine AWp.region ?_
    obtain ⟨r8, e7, hvK22⟩ := bindS hvK22
    refine AOps.cc hT hA {} (by cbv) (lb rfl) (C61w hA e7) rfl (.inl rfl) rfl rfl rfl (lb rfl) rfl rfl ?_
    rcases tf r8 with c9 | c9
    · replace hvK22 := cT c9 hvK22
      obtain ⟨r11, e10, hvK22⟩ := bindS hvK22
      refine AOps.cc hT hA {} (by (repeat (cbv; simp only [c9])); first | done | cbv) (lb rfl) (C61w hA e10) rfl (.inl rfl) rfl rfl rfl (lb rfl) rfl rfl ?_
      rcases tf r11 with c12 | c12
      · replace hvK22 := cT c12 hvK22
        obtain ⟨r14, e13, hvK22⟩ := bindS hvK22
        refine AOps.cc hT hA {} (by (repeat (cbv; simp only [c9, c12])); first | done | cbv) (lb rfl) (C61w hA e13) rfl (.inl rfl) rfl rfl rfl (lb rfl) rfl rfl ?_
        rcases tf r14 with c15 | c15
        · replace hvK22 := cT c15 hvK22
          obtain ⟨r17, e16, hvK22⟩ := bindS hvK22
          refine AOps.cc hT hA {} (by (repeat (cbv; simp only [c9, c12, c15])); first | done | cbv) (lb rfl) (C61w hA e16) rfl (.inl rfl) rfl rfl rfl (lb rfl) rfl rfl ?_
          rcases tf r17 with c18 | c18
          · replace hvK22 := cT c18 hvK22
            obtain ⟨r20, e19, hvK22⟩ := bindS hvK22
            refine AOps.cc hT hA {} (by (repeat (cbv; simp only [c9, c12, c15, c18])); first | done | cbv) (lb rfl) (C61w hA e19) rfl (.inl rfl) rfl rfl rfl (lb rfl) rfl rfl ?_
            refine AOps.cd hT hA {} (by (repeat (cbv; simp only [c9, c12, c15, c18])); first | done | cbv) (lb rfl) ?_
            cases soI hvK22
            exact oNi ⟨rfl, (by first | (cbv; done) | ((repeat (cbv; simp only [c9, c12, c15, c18])); first | done | cbv))⟩
          · replace hvK22 := cF c18 hvK22
            refine AOps.cd hT hA {} (by (repeat (cbv; simp only [c9, c12, c15, c18])); first | done | cbv) (lb rfl) ?_
            cases soI hvK22
            exact oNi ⟨rfl, (by first | (cbv; done) | ((repeat (cbv; simp only [c9, c12, c15, c18])); first | done | cbv))⟩
        · replace hvK22 := cF c15 hvK22
          refine AOps.cd hT hA {} (by (repeat (cbv; simp only [c9, c12, c15])); first | done | cbv) (lb rfl) ?_
          cases soI hvK22
          exact oNi ⟨rfl, (by first | (cbv; done) | ((repeat (cbv; simp only [c9, c12, c15])); first | done | cbv))⟩
      · replace hvK22 := cF c12 hvK22
        refine AOps.cd hT hA {} (by (repeat (cbv; simp only [c9, c12])); first | done | cbv) (lb rfl) ?_
        cases soI hvK22
        exact oNi ⟨rfl, (by first | (cbv; done) | ((repeat (cbv; simp only [c9, c12])); first | done | cbv))⟩
    · replace hvK22 := cF c9 hvK22
      refine AOps.cd hT hA {} (by (repeat (cbv; simp only [c9])); first | done | cbv) (lb rfl) ?_
      cases soI hvK22
      exact oNi ⟨rfl, (by first | (cbv; done) | ((repeat (cbv; simp only [c9])); first | done | cbv))⟩
  · rintro _ rfl
    refine nT ?_
    refine AWp.seq ?_
    refine AWp.seq ?_
    refine AWp.rg hT hA {} (by cbv) (lb rfl) ?_
    refine nT ?_
    rcases tf (A.zeq x6 0) with c23 | c23
    · replace h := cT c23 h
      refine AWp.cdT rfl (by first | rfl | simp only [c23, Bool.not_true, Bool.not_false, cond_true, cond_false]) ?_
      refine AWp.seq ?_
      obtain ⟨v25, hvK26, h⟩ := bindS h
      refine AWp.cutN [2] [] 0 (lb rfl) (fun τ => τ = { env := [(2, (.d (.bool v25)))], heap := [], n := 49 }) ?_ ?_
      · skip
        rcases tf v21 with c24 | c24
        · replace hvK26 := cT c24 hvK26
          refine AWp.rg hT hA { tk := [35] } (by (repeat (cbv; simp only [c23, c24])); first | done | cbv) (lb rfl) ?_
          cases soI hvK26
          exact oNi ⟨rfl, (by first | (cbv; done) | ((repeat (cbv; simp only [c23, c24])); first | done | cbv))⟩
        · replace hvK26 := cF c24 hvK26
          refine AWp.rg hT hA { tk := [35] } (by (repeat (cbv; simp only [c23, c24])); first | done | cbv) (lb rfl) ?_
          cases soI hvK26
          exact oNi ⟨rfl, (by first | (cbv; done) | ((repeat (cbv; simp only [c23, c24])); first | done | cbv))⟩
      · rintro _ rfl
        refine nT ?_
        refine AWp.ret ?_
        refine rT ?_
        cases soI h
        exact ⟨rfl, rfl, rfl, lb rfl, _, rfl⟩
    · replace h := cF c23 h
      refine AWp.cdF rfl (by first | rfl | simp only [c23, Bool.not_true, Bool.not_false, cond_true, cond_false]) ?_
      refine AWp.skip ?_
      refine nT ?_
      refine AWp.seq ?_
      obtain ⟨v31, hvK32, h⟩ := bindS h
      refine AWp.cutN [2] [] 0 (lb rfl) (fun τ => τ = { env := [(2, (.d (.bool v31)))], heap := [], n := 49 }) ?_ ?_
      · skip
        refine AWp.region ?_
        rcases tf v21 with c27 | c27
        · replace hvK32 := cT c27 hvK32
          obtain ⟨r29, e28, hvK32⟩ := bindS hvK32
          refine AOps.cc hT hA { tk := [48] } (by (repeat (cbv; simp only [c23, c27])); first | done | cbv) (lb rfl) (C61w hA e28) rfl (.inl rfl) rfl rfl rfl (lb rfl) rfl rfl ?_
          rcases tf r29 with c30 | c30
          · replace hvK32 := cT c30 hvK32
            refine AOps.cd hT hA { tk := [48] } (by (repeat (cbv; simp only [c23, c27, c30])); first | done | cbv) (lb rfl) ?_
            cases soI hvK32
            exact oNi ⟨rfl, (by first | (cbv; done) | ((repeat (cbv; simp only [c23, c27, c30])); first | done | cbv))⟩
          · replace hvK32 := cF c30 hvK32
            refine AOps.cd hT hA { tk := [48] } (by (repeat (cbv; simp only [c23, c27, c30])); first | done | cbv) (lb rfl) ?_
            cases soI hvK32
            exact oNi ⟨rfl, (by first | (cbv; done) | ((repeat (cbv; simp only [c23, c27, c30])); first | done | cbv))⟩
        · replace hvK32 := cF c27 hvK32
          refine AOps.cd hT hA { tk := [48] } (by (repeat (cbv; simp only [c23, c27])); first | done | cbv) (lb rfl) ?_
          cases soI hvK32
          exact oNi ⟨rfl, (by first | (cbv; done) | ((repeat (cbv; simp only [c23, c27])); first | done | cbv))⟩
      · rintro _ rfl
        refine nT ?_
        refine AWp.ret ?_
        cases soI h
        exact ⟨rfl, rfl, rfl, lb rfl, _, rfl⟩

theorem C127w {A : Ar} (hA : A = Ar.std) {x1 : Int} {x2 : Int} {x3 : Int} {x4 : Int} {x5 : Int} {x6 : Int} {x7 : Int} {x8 : Int} {x9 : Int} {x10 : Int} {x11 : Int} {x12 : Int} {v16 : Bool} (h : C127 A x1 x2 x3 x4 x5 x6 x7 x8 x9 x10 x11 x12 = some v16) : ACall Try.prog 127 [(.d (.agg [(.int .i64 x1), (.int .i64 x2), (.int .i64 x3), (.int .i64 x4), (.int .i64 x5), (.int .i64 x6)])), (.d (.agg [(.int .i64 x7), (.int .i64 x8), (.int .i64 x9), (.int .i64 x10), (.int .i64 x11), (.int .i64 x12)]))] [] (.d (.bool v16)) [] := by
  unfold C127 at h
  refine ACall.enter hT (fn := Try.f127) Try.func127 rfl (by decide) (by simp [Try.f127]) rfl rfl rfl rfl (lb rfl) ?_
  refine AWp.seq ?_
  refine AWp.rg hT hA {} (by cbv) (lb rfl) ?_
  refine nT ?_
  refine AWp.seq ?_
  obtain ⟨v14, hvK15, h⟩ := bindS h
  refine AWp.cutN [4] [] 0 (lb rfl) (fun τ => τ = { env := [(4, (.d (.bool v14)))], heap := [], n := 15 }) ?_ ?_
  · skip
    rcases tf (A.zlt 0 x6) with c13 | c13
    · replace hvK15 := cT c13 hvK15
      refine AWp.rg hT hA { tk := [14] } (by (repeat (cbv; simp only [c13])); first | done | cbv) (lb rfl) ?_
      cases soI hvK15
      exact oNi ⟨rfl, (by first | (cbv; done) | ((repeat (cbv; simp only [c13])); first | done | cbv))⟩
    · replace hvK15 := cF c13 hvK15
      refine AWp.rg hT hA { tk := [14] } (by (repeat (cbv; simp only [c13])); first | done | cbv) (lb rfl) ?_
      cases soI hvK15
      exact oNi ⟨rfl, (by first | (cbv; done) | ((repeat (cbv; simp only [c13])); first | done | cbv))⟩
  · rintro _ rfl
    refine nT ?_
    refine AWp.ret ?_
    cases soI h
    exact ⟨rfl, rfl, rfl, lb rfl, _, rfl⟩

theorem C114w {A : Ar} (hA : A = Ar.std) {x1 : List D} {v192 : Bool} (h : C114 A x1 = some v192) : ACall Try.prog 114 [(.d (.list 6 x1))] [] (.d (.bool v192)) [] := by
  unfold C114 at h
  refine ACall.enter hT (fn := Try.f114) Try.func114 rfl (by decide) (by simp [Try.f114]) rfl rfl rfl rfl (lb rfl) ?_
  refine AWp.seq ?_
  refine AWp.rg hT hA {} (by cbv) (lb rfl) ?_
  refine nT ?_
  refine AWp.seq ?_
  refine AWp.seq ?_
  refine AWp.rg hT hA {} (by cbv) (lb rfl) ?_
  refine nT ?_
  rcases tf (A.zlt 8 (A.len x1)) with c2 | c2
  · replace h := cT c2 h
    refine AWp.cdT rfl (by first | rfl | simp only [c2, Bool.not_true, Bool.not_false, cond_true, cond_false]) ?_
    refine AWp.seq ?_
    refine AWp.rg hT hA {} (by (repeat (cbv; simp only [c2])); first | done | cbv) (lb rfl) ?_
    refine nT ?_
    refine AWp.ret ?_
    refine rT ?_
    cases soI h
    exact ⟨rfl, rfl, rfl, lb rfl, _, rfl⟩
  · replace h := cF c2 h
    refine AWp.cdF rfl (by first | rfl | simp only [c2, Bool.not_true, Bool.not_false, cond_true, cond_false]) ?_
    refine AWp.skip ?_
    refine nT ?_
    refine AWp.seq ?_
    refine AWp.rg hT hA { arr := [3] } (by (repeat (cbv; simp only [c2])); first | done | cbv) (lb rfl) ?_
    refine nT ?_
    refine AWp.seq ?_
    refine AWp.seq ?_
    refine AWp.rg hT hA {} (by (repeat (cbv; simp only [c2])); first | done | cbv) (lb rfl) ?_
    refine nT ?_
    refine AWp.block ?_
    obtain ⟨xK191, hxK191, K191, hK191, hkK191⟩ := bindK h
    refine AWp.cutX 0 [] [] 1 (lb rfl) (fun τ => ∃ v189, K191 (.inl v189) = some v192 ∧ τ = { env := [], heap := [(.arr 1 v189)], n := 67 }) ?_ ?_
    · skip
      refine AWp.iter hxK191 [0, 3, 11, 12, 13] [] 1 (lb rfl) (fun (v95, v96) => { env := [(0, (.d (.list 6 x1))), (3, (.ptr 0 0)), (11, (.d (.list 6 x1))), (12, (.d (.int .i64 (A.len x1)))), (13, (.d (.int .i64 v95)))], heap := [(.arr 1 v96)], n := 67 }) ⟨rfl, (by first | (cbv; done) | ((repeat (cbv; simp only [c2])); first | done | cbv))⟩ ?_
      rintro ⟨v95, v96⟩ eK191 hsK191
      dsimp only [C114L1] at hsK191
      refine AWp.seq ?_
      refine AWp.rg hT hA {} (by cbv) (lb rfl) ?_
      refine nT ?_
      refine AWp.seq ?_
      rcases tf (A.zlt v95 (A.len x1)) with c97 | c97
      · replace hsK191 := cT c97 hsK191
        refine AWp.cdT rfl (by first | rfl | simp only [c97, Bool.not_true, Bool.not_false, cond_true, cond_false]) ?_
        refine AWp.skip ?_
        refine nT ?_
        refine AWp.seq ?_
        refine AWp.block ?_
        refine AWp.seq ?_
        obtain ⟨⟨a98, a99, a100, a101, a102, a103⟩, e104, hsK191⟩ := bindS hsK191
        obtain ⟨f105, f106⟩ := gtI e104
        refine AWp.rg hT hA { tk := [17] } (by (repeat (cbv; simp only [c97, f105, f106])); first | done | cbv) (lb rfl) ?_
        refine nT ?_
        refine AWp.seq ?_
        refine AWp.seq ?_
        obtain ⟨v117, hvK118, hsK191⟩ := bindS hsK191
        refine AWp.cutN [0, 3, 4, 5, 11, 12, 13, 26] [] 1 (lb rfl) (fun τ => τ = { env := [(0, (.d (.list 6 x1))), (3, (.ptr 0 0)), (4, (.d (.int .i64 v95))), (5, (.lbox [(.d (.int .i64 a98)), (.d (.int .i64 a99)), (.d (.int .i64 a100)), (.d (.int .i64 a101)), (.d (.int .i64 a102)), (.d (.int .i64 a103))])), (11, (.d (.list 6 x1))), (12, (.d (.int .i64 (A.len x1)))), (13, (.d (.int .i64 v95))), (26, (.d (.bool v117)))], heap := [(.arr 1 v96)], n := 67 }) ?_ ?_
        · skip
          refine AWp.region ?_
          obtain ⟨r108, e107, hvK118⟩ := bindS hvK118
          refine AOps.cc hT hA {} (by (repeat (cbv; simp only [c97])); first | done | cbv) (lb rfl) (C139w hA e107) rfl (.inr rfl) rfl rfl rfl (lb rfl) rfl rfl ?_
          rcases tf r108 with c109 | c109
          · replace hvK118 := cT c109 hvK118
            obtain ⟨_, e110, hvK118⟩ := bindS hvK118
            have f112 := ckI e110
            obtain ⟨_, e111, hvK118⟩ := bindS hvK118
            have f113 := ckI e111
            obtain ⟨a114, e115, hvK118⟩ := bindS hvK118
            have f116 := gcI e115
            refine AOps.cd hT hA {} (by (repeat (cbv; simp only [c97, c109, f112, f113, f116])); first | done | cbv) (lb rfl) ?_
            cases soI hvK118
            exact oNi ⟨rfl, (by first | (cbv; done) | ((repeat (cbv; simp only [c97, c109])); first | done | cbv))⟩
          · replace hvK118 := cF c109 hvK118
            refine AOps.cd hT hA {} (by (repeat (cbv; simp only [c97, c109])); first | done | cbv) (lb rfl) ?_
            cases soI hvK118
            exact oNi ⟨rfl, (by first | (cbv; done) | ((repeat (cbv; simp only [c97, c109])); first | done | cbv))⟩
        · rintro _ rfl
          refine nT ?_
          rcases tf v117 with c119 | c119
          · replace hsK191 := cT c119 hsK191
            refine AWp.cdT rfl (by first | rfl | simp only [c119, Bool.not_true, Bool.not_false, cond_true, cond_false]) ?_
            refine AWp.seq ?_
            refine AWp.rg hT hA {} (by (repeat (cbv; simp only [c119])); first | done | cbv) (lb rfl) ?_
            refine nT ?_
            refine AWp.ret ?_
            refine rT ?_
            refine rB ?_
            refine rT ?_
            refine rT ?_
            refine exL hsK191 fun hx => ?_
            subst hx
            refine oxR ?_
            replace hkK191 := (eR (hK191 _ hkK191))
            refine rB ?_
            refine rT ?_
            cases soI hkK191
            exact ⟨rfl, rfl, rfl, lb rfl, _, rfl⟩
          · replace hsK191 := cF c119 hsK191
            refine AWp.cdF rfl (by first | rfl | simp only [c119, Bool.not_true, Bool.not_false, cond_true, cond_false]) ?_
            refine AWp.skip ?_
            refine nT ?_
            refine AWp.seq ?_
            obtain ⟨_, e120, hsK191⟩ := bindS hsK191
            have f122 := ckI e120
            obtain ⟨_, e121, hsK191⟩ := bindS hsK191
            have f123 := ckI e121
            obtain ⟨d124, e125, hsK191⟩ := bindS hsK191
            refine AWp.rg hT hA {} (by (repeat (cbv; simp only [c119, f122, f123, e125])); first | done | cbv) (lb rfl) ?_
            refine nT ?_
            refine AWp.seq ?_
            refine AWp.seq ?_
            refine AWp.rg hT hA {} (by (repeat (cbv; simp only [c119])); first | done | cbv) (lb rfl) ?_
            refine nT ?_
            obtain ⟨K142, hK142, hsK191⟩ := jnI hsK191
            refine AWp.cutN [0, 3, 4, 5, 11, 12, 13] [] 1 (lb rfl) (fun τ => ∃ v141, K142 v141 = some eK191 ∧ τ = { env := [(0, (.d (.list 6 x1))), (3, (.ptr 0 0)), (4, (.d (.int .i64 v95))), (5, (.lbox [(.d (.int .i64 a98)), (.d (.int .i64 a99)), (.d (.int .i64 a100)), (.d (.int .i64 a101)), (.d (.int .i64 a102)), (.d (.int .i64 a103))])), (11, (.d (.list 6 x1))), (12, (.d (.int .i64 (A.len x1)))), (13, (.d (.int .i64 v95)))], heap := [(.arr 1 v141)], n := 67 }) ?_ ?_
            · skip
              rcases tf (A.zlt 0 a103) with c126 | c126
              · replace hsK191 := cT c126 hsK191
                refine AWp.cdT rfl (by first | rfl | simp only [c119, c126, Bool.not_true, Bool.not_false, cond_true, cond_false]) ?_
                refine AWp.seq ?_
                refine AWp.seq ?_
                obtain ⟨_, e127, hsK191⟩ := bindS hsK191
                have f129 := ckI e127
                obtain ⟨_, e128, hsK191⟩ := bindS hsK191
                have f130 := ckI e128
                obtain ⟨a131, e132, hsK191⟩ := bindS hsK191
                have f133 := gcI e132
                refine AWp.rg hT hA {} (by (repeat (cbv; simp only [c119, c126, f129, f130, f133])); first | done | cbv) (lb rfl) ?_
                refine nT ?_
                rcases tf a131 with c134 | c134
                · replace hsK191 := cT c134 hsK191
                  refine AWp.cdT rfl (by first | rfl | simp only [c119, c126, c134, Bool.not_true, Bool.not_false, cond_true, cond_false]) ?_
                  refine AWp.seq ?_
                  refine AWp.rg hT hA {} (by (repeat (cbv; simp only [c119, c126, c134])); first | done | cbv) (lb rfl) ?_
                  refine nT ?_
                  refine AWp.ret ?_
                  refine rT ?_
                  refine oNr ?_
                  refine rT ?_
                  refine rB ?_
                  refine rT ?_
                  refine rT ?_
                  refine exL hsK191 fun hx => ?_
                  subst hx
                  refine oxR ?_
                  replace hkK191 := (eR (hK191 _ hkK191))
                  refine rB ?_
                  refine rT ?_
                  cases soI hkK191
                  exact ⟨rfl, rfl, rfl, lb rfl, _, rfl⟩
                · replace hsK191 := cF c134 hsK191
                  refine AWp.cdF rfl (by first | rfl | simp only [c119, c126, c134, Bool.not_true, Bool.not_false, cond_true, cond_false]) ?_
                  refine AWp.skip ?_
                  refine nT ?_
                  obtain ⟨_, e135, hsK191⟩ := bindS hsK191
                  have f137 := ckI e135
                  obtain ⟨_, e136, hsK191⟩ := bindS hsK191
                  have f138 := ckI e136
                  obtain ⟨d139, e140, hsK191⟩ := bindS hsK191
                  refine AWp.rg hT hA {} (by (repeat (cbv; simp only [c119, c126, c134, f137, f138, e140])); first | done | cbv) (lb rfl) ?_
                  exact oNi ⟨rfl, _, hsK191, (by first | (cbv; done) | ((repeat (cbv; simp only [c119, c126, c134])); first | done | cbv))⟩
              · replace hsK191 := cF c126 hsK191
                refine AWp.cdF rfl (by first | rfl | simp only [c119, c126, Bool.not_true, Bool.not_false, cond_true, cond_false]) ?_
                refine AWp.skip ?_
                exact oNi ⟨rfl, _, hsK191, (by first | (cbv; done) | ((repeat (cbv; simp only [c119, c126])); first | done | cbv))⟩
            · rintro _ ⟨v141, hsK191, rfl⟩
              replace hsK191 := hK142 _ hsK191
              refine nT ?_
              refine AWp.seq ?_
              obtain ⟨l143, e144, hsK191⟩ := bindS hsK191
              obtain ⟨f145, f146, f147, f148⟩ := slI e144
              refine AWp.rg hT hA {} (by (repeat (cbv; simp only [f145, f146, f147, f148])); first | done | cbv) (lb rfl) ?_
              refine nT ?_
              refine AWp.block ?_
              obtain ⟨xK188, hxK188, K188, hK188, hkK188⟩ := bindK hsK191
              refine AWp.cutX 2 [0, 3, 11, 12, 13] [] 1 (lb rfl) (fun τ => K188 (.inl ()) = some eK191 ∧ τ = { env := [(0, (.d (.list 6 x1))), (3, (.ptr 0 0)), (11, (.d (.list 6 x1))), (12, (.d (.int .i64 (A.len x1)))), (13, (.d (.int .i64 v95)))], heap := [(.arr 1 v141)], n := 67 }) ?_ ?_
              · skip
                refine AWp.iter hxK188 [0, 3, 5, 11, 12, 13, 42, 43, 44] [] 1 (lb rfl) (fun v168 => { env := [(0, (.d (.list 6 x1))), (3, (.ptr 0 0)), (5, (.lbox [(.d (.int .i64 a98)), (.d (.int .i64 a99)), (.d (.int .i64 a100)), (.d (.int .i64 a101)), (.d (.int .i64 a102)), (.d (.int .i64 a103))])), (11, (.d (.list 6 x1))), (12, (.d (.int .i64 (A.len x1)))), (13, (.d (.int .i64 v95))), (42, (.d (.list 6 l143))), (43, (.d (.int .i64 (A.len l143)))), (44, (.d (.int .i64 v168)))], heap := [(.arr 1 v141)], n := 67 }) ⟨rfl, (by cbv)⟩ ?_
                rintro v168 eK188 hsK188
                dsimp only [C114L0] at hsK188
                refine AWp.seq ?_
                refine AWp.rg hT hA {} (by cbv) (lb rfl) ?_
                refine nT ?_
                refine AWp.seq ?_
                rcases tf (A.zlt v168 (A.len l143)) with c169 | c169
                · replace hsK188 := cT c169 hsK188
                  refine AWp.cdT rfl (by first | rfl | simp only [c169, Bool.not_true, Bool.not_false, cond_true, cond_false]) ?_
                  refine AWp.skip ?_
                  refine nT ?_
                  refine AWp.seq ?_
                  refine AWp.block ?_
                  refine AWp.seq ?_
                  obtain ⟨⟨a170, a171, a172, a173, a174, a175⟩, e176, hsK188⟩ := bindS hsK188
                  obtain ⟨f177, f178⟩ := gtI e176
                  refine AWp.rg hT hA { tk := [47] } (by (repeat (cbv; simp only [c169, f177, f178])); first | done | cbv) (lb rfl) ?_
                  refine nT ?_
                  refine AWp.seq ?_
                  obtain ⟨v185, hvK186, hsK188⟩ := bindS hsK188
                  refine AWp.cutN [0, 3, 5, 11, 12, 13, 42, 43, 44, 64] [] 1 (lb rfl) (fun τ => τ = { env := [(0, (.d (.list 6 x1))), (3, (.ptr 0 0)), (5, (.lbox [(.d (.int .i64 a98)), (.d (.int .i64 a99)), (.d (.int .i64 a100)), (.d (.int .i64 a101)), (.d (.int .i64 a102)), (.d (.int .i64 a103))])), (11, (.d (.list 6 x1))), (12, (.d (.int .i64 (A.len x1)))), (13, (.d (.int .i64 v95))), (42, (.d (.list 6 l143))), (43, (.d (.int .i64 (A.len l143)))), (44, (.d (.int .i64 v168))), (64, (.d (.bool v185)))], heap := [(.arr 1 v141)], n := 67 }) ?_ ?_
                  · skip
                    refine AWp.region ?_
                    rcases tf (A.zeq a98 a170) with c179 | c179
                    · replace hvK186 := cT c179 hvK186
                      obtain ⟨r181, e180, hvK186⟩ := bindS hvK186
                      refine AOps.cc hT hA {} (by (repeat (cbv; simp only [c169, c179])); first | done | cbv) (lb rfl) (C127w hA e180) rfl (.inr rfl) rfl rfl rfl (lb rfl) rfl rfl ?_
                      rcases tf r181 with c182 | c182
                      · replace hvK186 := cT c182 hvK186
                        refine AOps.cd hT hA {} (by (repeat (cbv; simp only [c169, c179, c182])); first | done | cbv) (lb rfl) ?_
                        cases soI hvK186
                        exact oNi ⟨rfl, (by first | (cbv; done) | ((repeat (cbv; simp only [c169, c179, c182])); first | done | cbv))⟩
                      · replace hvK186 := cF c182 hvK186
                        obtain ⟨r184, e183, hvK186⟩ := bindS hvK186
                        refine AOps.cc hT hA {} (by (repeat (cbv; simp only [c169, c179, c182])); first | done | cbv) (lb rfl) (C127w hA e183) rfl (.inr rfl) rfl rfl rfl (lb rfl) rfl rfl ?_
                        refine AOps.cd hT hA {} (by (repeat (cbv; simp only [c169, c179, c182])); first | done | cbv) (lb rfl) ?_
                        cases soI hvK186
                        exact oNi ⟨rfl, (by first | (cbv; done) | ((repeat (cbv; simp only [c169, c179, c182])); first | done | cbv))⟩
                    · replace hvK186 := cF c179 hvK186
                      refine AOps.cd hT hA {} (by (repeat (cbv; simp only [c169, c179])); first | done | cbv) (lb rfl) ?_
                      cases soI hvK186
                      exact oNi ⟨rfl, (by first | (cbv; done) | ((repeat (cbv; simp only [c169, c179])); first | done | cbv))⟩
                  · rintro _ rfl
                    refine nT ?_
                    rcases tf v185 with c187 | c187
                    · replace hsK188 := cT c187 hsK188
                      refine AWp.cdT rfl (by first | rfl | simp only [c187, Bool.not_true, Bool.not_false, cond_true, cond_false]) ?_
                      refine AWp.seq ?_
                      refine AWp.rg hT hA {} (by (repeat (cbv; simp only [c187])); first | done | cbv) (lb rfl) ?_
                      refine nT ?_
                      refine AWp.ret ?_
                      refine rB ?_
                      refine rT ?_
                      refine rT ?_
                      refine exL hsK188 fun hx => ?_
                      subst hx
                      refine oxR ?_
                      replace hkK188 := (eR (hK188 _ hkK188))
                      refine rB ?_
                      refine rB ?_
                      refine rT ?_
                      refine rT ?_
                      refine exL hkK188 fun hx => ?_
                      subst hx
                      refine oxR ?_
                      replace hkK191 := (eR (hK191 _ hkK191))
                      refine rB ?_
                      refine rT ?_
                      cases soI hkK191
                      exact ⟨rfl, rfl, rfl, lb rfl, _, rfl⟩
                    · replace hsK188 := cF c187 hsK188
                      refine AWp.cdF rfl (by first | rfl | simp only [c187, Bool.not_true, Bool.not_false, cond_true, cond_false]) ?_
                      refine AWp.skip ?_
                      refine nB ?_
                      refine nT ?_
                      refine AWp.rg hT hA {} (by (repeat (cbv; simp only [c187])); first | done | cbv) (lb rfl) ?_
                      exact nT ⟨_, (soI hsK188).symm, rfl, (by first | (cbv; done) | ((repeat (cbv; simp only [c187])); first | done | cbv))⟩
                · replace hsK188 := cF c169 hsK188
                  refine AWp.cdF rfl (by first | rfl | simp only [c169, Bool.not_true, Bool.not_false, cond_true, cond_false]) ?_
                  refine AWp.exit ?_
                  refine xT ?_
                  refine xT ?_
                  refine exL hsK188 fun hx => ?_
                  subst hx
                  exact oxI ⟨rfl, hkK188, (by first | (cbv; done) | ((repeat (cbv; simp only [c169])); first | done | cbv))⟩
              · rintro _ ⟨hkK188, rfl⟩
                have hsK191 := (eL (hK188 _ hkK188))
                refine xB ?_
                refine nB ?_
                refine nT ?_
                refine AWp.rg hT hA {} (by cbv) (lb rfl) ?_
                exact nT ⟨_, (soI hsK191).symm, rfl, (by cbv)⟩
      · replace hsK191 := cF c97 hsK191
        refine AWp.cdF rfl (by first | rfl | simp only [c97, Bool.not_true, Bool.not_false, cond_true, cond_false]) ?_
        refine AWp.exit ?_
        refine xT ?_
        refine xT ?_
        refine exL hsK191 fun hx => ?_
        subst hx
        exact oxI ⟨rfl, _, hkK191, (by first | (cbv; done) | ((repeat (cbv; simp only [c97])); first | done | cbv))⟩
    · rintro _ ⟨v189, hkK191, rfl⟩
      have h := (eL (hK191 _ hkK191))
      refine xB ?_
      refine nT ?_
      refine AWp.seq ?_
      refine AWp.rg hT hA {} (by cbv) (lb rfl) ?_
      refine nT ?_
      refine AWp.ret ?_
      cases soI h
      exact ⟨rfl, rfl, rfl, lb rfl, _, rfl⟩

theorem C60w {A : Ar} (hA : A = Ar.std) {x1 : Int} {v4 : Bool} (h : C60 A x1 = some v4) : ACall Try.prog 60 [(.iptr [(.int .i64 x1)])] [] (.d (.bool v4)) [] := by
  unfold C60 at h
  refine ACall.enter hT (fn := Try.f60) Try.func60 rfl (by decide) (by simp [Try.f60]) rfl rfl rfl rfl (lb rfl) ?_
  refine AWp.seq ?_
  refine AWp.rg hT hA {} (by cbv) (lb rfl) ?_
  refine nT ?_
  refine AWp.seq ?_
  refine AWp.region ?_
  obtain ⟨r3, e2, h⟩ := bindS h
  refine AOps.cc hT hA { tk := [3] } (by cbv) (lb rfl) (C61w hA e2) rfl (.inl rfl) rfl rfl rfl (lb rfl) rfl rfl ?_
  refine AOps.cd hT hA { tk := [3] } (by cbv) (lb rfl) ?_
  refine nT ?_
  refine AWp.ret ?_
  cases soI h
  exact ⟨rfl, rfl, rfl, lb rfl, _, rfl⟩

theorem C64w {A : Ar} (hA : A = Ar.std) {x1 : Int} {x2 : Int} {x3 : Int} {x4 : Int} {x5 : Int} {x6 : Int} {x7 : Int} {v8 : Bool} (h : C64 A x1 x2 x3 x4 x5 x6 x7 = some v8) : ACall Try.prog 64 [(.d (.agg [(.int .i64 x1), (.int .i64 x2), (.int .i64 x3), (.int .i64 x4), (.int .i64 x5), (.int .i64 x6)])), (.iptr [(.int .i64 x7)])] [] (.d (.bool v8)) [] := by
  unfold C64 at h
  refine ACall.enter hT (fn := Try.f64) Try.func64 rfl (by decide) (by simp [Try.f64]) rfl rfl rfl rfl (lb rfl) ?_
  refine AWp.seq ?_
  refine AWp.rg hT hA {} (by cbv) (lb rfl) ?_
  refine nT ?_
  refine AWp.seq ?_
  refine AWp.rg hT hA { tk := [7] } (by cbv) (lb rfl) ?_
  refine nT ?_
  refine AWp.ret ?_
  cases soI h
  exact ⟨rfl, rfl, rfl, lb rfl, _, rfl⟩

theorem C63w {A : Ar} (hA : A = Ar.std) {x1 : List D} {x2 : Int} {v45 : List D} (h : C63 A x1 x2 = some v45) : ACall Try.prog 63 [(.d (.list 6 x1)), (.func 64 [] [(.iptr [(.int .i64 x2)])])] [] (.own 6 v45) [] := by
  unfold C63 at h
  refine ACall.enter hT (fn := Try.f63) Try.func63 rfl (by decide) (by simp [Try.f63]) rfl rfl rfl rfl (lb rfl) ?_
  refine AWp.seq ?_
  refine AWp.rg hT hA {} (by cbv) (lb rfl) ?_
  refine nT ?_
  refine AWp.seq ?_
  refine AWp.rg hT hA {} (by cbv) (lb rfl) ?_
  refine nT ?_
  refine AWp.seq ?_
  refine AWp.seq ?_
  refine AWp.rg hT hA {} (by cbv) (lb rfl) ?_
  refine nT ?_
  refine AWp.block ?_
  obtain ⟨xK44, hxK44, K44, hK44, hkK44⟩ := bindK h
  refine AWp.cutX 0 [5] [] 0 (lb rfl) (fun τ => ∃ v43, K44 v43 = some v45 ∧ τ = { env := [(5, (.own 6 v43))], heap := [], n := 23 }) ?_ ?_
  · skip
    refine AWp.iter hxK44 [1, 5, 8, 9, 10] [] 0 (lb rfl) (fun (v22, v23) => { env := [(1, (.func 64 [] [(.iptr [(.int .i64 x2)])])), (5, (.own 6 v22)), (8, (.d (.list 6 x1))), (9, (.d (.int .i64 (A.len x1)))), (10, (.d (.int .i64 v23)))], heap := [], n := 23 }) ⟨rfl, (by cbv)⟩ ?_
    rintro ⟨v22, v23⟩ eK44 hsK44
    dsimp only [C63L0] at hsK44
    refine AWp.seq ?_
    refine AWp.rg hT hA {} (by cbv) (lb rfl) ?_
    refine nT ?_
    refine AWp.seq ?_
    rcases tf (A.zlt v23 (A.len x1)) with c24 | c24
    · replace hsK44 := cT c24 hsK44
      refine AWp.cdT rfl (by first | rfl | simp only [c24, Bool.not_true, Bool.not_false, cond_true, cond_false]) ?_
      refine AWp.skip ?_
      refine nT ?_
      refine AWp.seq ?_
      refine AWp.block ?_
      refine AWp.seq ?_
      obtain ⟨⟨a25, a26, a27, a28, a29, a30⟩, e31, hsK44⟩ := bindS hsK44
      obtain ⟨f32, f33⟩ := gtI e31
      refine AWp.rg hT hA { tk := [13] } (by (repeat (cbv; simp only [c24, f32, f33])); first | done | cbv) (lb rfl) ?_
      refine nT ?_
      refine AWp.seq ?_
      refine AWp.region ?_
      obtain ⟨r35, e34, hsK44⟩ := bindS hsK44
      refine AOps.cc hT hA {} (by (repeat (cbv; simp only [c24])); first | done | cbv) (lb rfl) (C64w hA e34) rfl (.inl rfl) rfl rfl rfl (lb rfl) rfl rfl ?_
      refine AOps.cd hT hA {} (by (repeat (cbv; simp only [c24])); first | done | cbv) (lb rfl) ?_
      refine nT ?_
      obtain ⟨v41, hvK42, hsK44⟩ := bindS hsK44
      refine AWp.cutN [1, 5, 8, 9, 10] [] 0 (lb rfl) (fun τ => τ = { env := [(1, (.func 64 [] [(.iptr [(.int .i64 x2)])])), (5, (.own 6 v41)), (8, (.d (.list 6 x1))), (9, (.d (.int .i64 (A.len x1)))), (10, (.d (.int .i64 v23)))], heap := [], n := 23 }) ?_ ?_
      · skip
        rcases tf r35 with c36 | c36
        · replace hvK42 := cT c36 hvK42
          refine AWp.cdT rfl (by first | rfl | simp only [c24, c36, Bool.not_true, Bool.not_false, cond_true, cond_false]) ?_
          obtain ⟨l37, e38, hvK42⟩ := bindS hvK42
          obtain ⟨f39, f40⟩ := apI e38
          refine AWp.rg hT hA { tk := [5, 20] } (by (repeat (cbv; simp only [c24, c36, f39, f40])); first | done | cbv) (lb rfl) ?_
          cases soI hvK42
          exact oNi ⟨rfl, (by first | (cbv; done) | ((repeat (cbv; simp only [c24, c36])); first | done | cbv))⟩
        · replace hvK42 := cF c36 hvK42
          refine AWp.cdF rfl (by first | rfl | simp only [c24, c36, Bool.not_true, Bool.not_false, cond_true, cond_false]) ?_
          refine AWp.skip ?_
          cases soI hvK42
          exact oNi ⟨rfl, (by first | (cbv; done) | ((repeat (cbv; simp only [c24, c36])); first | done | cbv))⟩
      · rintro _ rfl
        refine nB ?_
        refine nT ?_
        refine AWp.rg hT hA {} (by cbv) (lb rfl) ?_
        exact nT ⟨_, (soI hsK44).symm, rfl, (by cbv)⟩
    · replace hsK44 := cF c24 hsK44
      refine AWp.cdF rfl (by first | rfl | simp only [c24, Bool.not_true, Bool.not_false, cond_true, cond_false]) ?_
      refine AWp.exit ?_
      refine xT ?_
      refine xT ?_
      refine exL hsK44 fun hx => ?_
      subst hx
      exact oxI ⟨rfl, _, hkK44, (by first | (cbv; done) | ((repeat (cbv; simp only [c24])); first | done | cbv))⟩
  · rintro _ ⟨v43, hkK44, rfl⟩
    have h := (hK44 _ hkK44)
    refine xB ?_
    refine nT ?_
    refine AWp.seq ?_
    refine AWp.rg hT hA { tk := [5, 22] } (by cbv) (lb rfl) ?_
    refine nT ?_
    refine AWp.ret ?_
    cases soI h
    exact ⟨rfl, rfl, rfl, lb rfl, _, rfl⟩

theorem C62w {A : Ar} (hA : A = Ar.std) {x1 : List D} {x2 : Int} {v87 : List D} (h : C62 A x1 x2 = some v87) : ACall Try.prog 62 [(.iptr [(.list 6 x1)]), (.iptr [(.int .i64 x2)])] [] (.d (.list 6 v87)) [] := by
  unfold C62 at h
  refine ACall.enter hT (fn := Try.f62) Try.func62 rfl (by decide) (by simp [Try.f62]) rfl rfl rfl rfl (lb rfl) ?_
  refine AWp.seq ?_
  refine AWp.rg hT hA {} (by cbv) (lb rfl) ?_
  refine nT ?_
  refine AWp.seq ?_
  refine AWp.region ?_
  obtain ⟨r4, e3, h⟩ := bindS h
  rcases tf (A.zlt 0 (A.len r4)) with c5 | c5
  · replace h := cT c5 h
    obtain ⟨_, e6, h⟩ := bindS h
    refine AOps.cc hT hA { tk := [8] } (by cbv) (lb rfl) (ACall.thaw (C63w hA e3) rfl rfl (neL hA c5) (ckI e6) (H := []) rfl (lenL hA)) rfl (.inl rfl) rfl rfl rfl (lb rfl) rfl rfl ?_
    refine AOps.cd hT hA { tk := [8] } (by (repeat (cbv; simp only [c5])); first | done | cbv) (lb rfl) ?_
    refine nT ?_
    refine AWp.seq ?_
    refine AWp.seq ?_
    refine AWp.rg hT hA {} (by (repeat (cbv; simp only [c5])); first | done | cbv) (lb rfl) ?_
    refine nT ?_
    refine AWp.block ?_
    obtain ⟨xK58, hxK58, K58, hK58, hkK58⟩ := bindK h
    refine AWp.cutX 0 [3] [] 1 (lb rfl) (fun τ => ∃ v57, K58 v57 = some v87 ∧ τ = { env := [(3, (.mref 0 6 0 (A.len r4)))], heap := [(.arr 6 v57)], n := 31 }) ?_ ?_
    · skip
      refine AWp.iter hxK58 [1, 3, 10, 11] [] 1 (lb rfl) (fun (v31, v32) => { env := [(1, (.iptr [(.int .i64 x2)])), (3, (.mref 0 6 0 (A.len r4))), (10, (.d (.int .i64 (A.len r4)))), (11, (.d (.int .i64 v31)))], heap := [(.arr 6 v32)], n := 31 }) ⟨rfl, (by first | (cbv; done) | ((repeat (cbv; simp only [c5])); first | done | cbv))⟩ ?_
      rintro ⟨v31, v32⟩ eK58 hsK58
      dsimp only [C62L0] at hsK58
      refine AWp.seq ?_
      refine AWp.rg hT hA {} (by cbv) (lb rfl) ?_
      refine nT ?_
      refine AWp.seq ?_
      rcases tf (A.zlt v31 (A.len r4)) with c33 | c33
      · replace hsK58 := cT c33 hsK58
        refine AWp.cdT rfl (by first | rfl | simp only [c33, Bool.not_true, Bool.not_false, cond_true, cond_false]) ?_
        refine AWp.skip ?_
        refine nT ?_
        refine AWp.seq ?_
        refine AWp.block ?_
        refine AWp.seq ?_
        refine AWp.rg hT hA {} (by (repeat (cbv; simp only [c33])); first | done | cbv) (lb rfl) ?_
        refine nT ?_
        refine AWp.seq ?_
        obtain ⟨_, e34, hsK58⟩ := bindS hsK58
        have f36 := ckI e34
        obtain ⟨_, e35, hsK58⟩ := bindS hsK58
        have f37 := ckI e35
        refine AWp.rg hT hA {} (by (repeat (cbv; simp only [c33, f36, f37])); first | done | cbv) (lb rfl) ?_
        refine nT ?_
        refine AWp.seq ?_
        obtain ⟨⟨a38, a39, a40, a41, a42, a43⟩, e44, hsK58⟩ := bindS hsK58
        have f45 := gcI e44
        refine AWp.rd hT hA {} rfl (by (repeat (cbv; simp only [c33, f45])); first | done | cbv) (by kernel_rfl) (lb rfl) ?_
        refine nT ?_
        obtain ⟨v55, hvK56, hsK58⟩ := bindS hsK58
        refine AWp.cutN [1, 3, 10, 11] [] 1 (lb rfl) (fun τ => τ = { env := [(1, (.iptr [(.int .i64 x2)])), (3, (.mref 0 6 0 (A.len r4))), (10, (.d (.int .i64 (A.len r4)))), (11, (.d (.int .i64 v31)))], heap := [(.arr 6 v55)], n := 31 }) ?_ ?_
        · skip
          rcases tf (A.zlt x2 a43) with c46 | c46
          · replace hvK56 := cT c46 hvK56
            refine AWp.cdT rfl (by first | rfl | simp only [c33, c46, Bool.not_true, Bool.not_false, cond_true, cond_false]) ?_
            obtain ⟨⟨a47, a48, a49, a50, a51, a52⟩, e53, hvK56⟩ := bindS hvK56
            have f54 := gcI e53
            refine AWp.rg hT hA {} (by (repeat (cbv; simp only [c33, c46, f45, f54])); first | done | cbv) (lb rfl) ?_
            cases soI hvK56
            exact oNi ⟨rfl, (by first | (cbv; done) | ((repeat (cbv; simp only [c33, c46])); first | done | cbv))⟩
          · replace hvK56 := cF c46 hvK56
            refine AWp.cdF rfl (by first | rfl | simp only [c33, c46, Bool.not_true, Bool.not_false, cond_true, cond_false]) ?_
            refine AWp.skip ?_
            cases soI hvK56
            exact oNi ⟨rfl, (by first | (cbv; done) | ((repeat (cbv; simp only [c33, c46])); first | done | cbv))⟩
        · rintro _ rfl
          refine nB ?_
          refine nT ?_
          refine AWp.rg hT hA {} (by cbv) (lb rfl) ?_
          exact nT ⟨_, (soI hsK58).symm, rfl, (by cbv)⟩
      · replace hsK58 := cF c33 hsK58
        refine AWp.cdF rfl (by first | rfl | simp only [c33, Bool.not_true, Bool.not_false, cond_true, cond_false]) ?_
        refine AWp.exit ?_
        refine xT ?_
        refine xT ?_
        refine exL hsK58 fun hx => ?_
        subst hx
        exact oxI ⟨rfl, _, hkK58, (by first | (cbv; done) | ((repeat (cbv; simp only [c33])); first | done | cbv))⟩
    · rintro _ ⟨v57, hkK58, rfl⟩
      have h := (hK58 _ hkK58)
      refine xB ?_
      refine nT ?_
      refine AWp.seq ?_
      refine AWp.rg hT hA { tk := [3, 30] } (by cbv) (lb rfl) ?_
      refine nT ?_
      obtain ⟨l59, e60, h⟩ := bindS h
      obtain ⟨f61, f62⟩ := fzI hA e60
      refine AWp.freeze (s := 2) (i := 0) rfl rfl f61 f62 ?_
      refine AWp.ret ?_
      cases soI h
      exact ⟨rfl, rfl, rfl, lb rfl, _, rfl⟩
  · replace h := cF c5 h
    refine AOps.cc hT hA { tk := [8] } (by cbv) (lb rfl) (C63w hA e3) rfl (.inl rfl) rfl rfl rfl (lb rfl) rfl rfl ?_
    refine AOps.cd hT hA { tk := [8] } (by (repeat (cbv; simp only [c5])); first | done | cbv) (lb rfl) ?_
    refine nT ?_
    refine AWp.seq ?_
    refine AWp.seq ?_
    refine AWp.rg hT hA {} (by (repeat (cbv; simp only [c5])); first | done | cbv) (lb rfl) ?_
    refine nT ?_
    refine AWp.block ?_
    obtain ⟨xK86, hxK86, K86, hK86, hkK86⟩ := bindK h
    refine AWp.cutX 0 [3] [] 0 (lb rfl) (fun τ => K86 () = some v87 ∧ τ = { env := [(3, (.own 6 r4))], heap := [], n := 31 }) ?_ ?_
    · skip
      refine AWp.iter hxK86 [1, 3, 10, 11] [] 0 (lb rfl) (fun v74 => { env := [(1, (.iptr [(.int .i64 x2)])), (3, (.own 6 r4)), (10, (.d (.int .i64 (A.len r4)))), (11, (.d (.int .i64 v74)))], heap := [], n := 31 }) ⟨rfl, (by first | (cbv; done) | ((repeat (cbv; simp only [c5])); first | done | cbv))⟩ ?_
      rintro v74 eK86 hsK86
      dsimp only [C62L1] at hsK86
      refine AWp.seq ?_
      refine AWp.rg hT hA {} (by cbv) (lb rfl) ?_
      refine nT ?_
      refine AWp.seq ?_
      rcases tf (A.zlt v74 (A.len r4)) with c75 | c75
      · replace hsK86 := cT c75 hsK86
        refine AWp.cdT rfl (by first | rfl | simp only [c75, Bool.not_true, Bool.not_false, cond_true, cond_false]) ?_
        refine AWp.skip ?_
        refine nT ?_
        refine AWp.seq ?_
        refine AWp.block ?_
        refine AWp.seq ?_
        refine AWp.rg hT hA {} (by (repeat (cbv; simp only [c75])); first | done | cbv) (lb rfl) ?_
        refine nT ?_
        refine AWp.seq ?_
        obtain ⟨⟨a76, a77, a78, a79, a80, a81⟩, e82, hsK86⟩ := bindS hsK86
        obtain ⟨f83, f84⟩ := gtI e82
        refine AWp.rg hT hA {} (by (repeat (cbv; simp only [c75, f83, f84])); first | done | cbv) (lb rfl) ?_
        refine nT ?_
        refine AWp.seq ?_
        refine AWp.rd hT hA {} rfl (by (repeat (cbv; simp only [c75])); first | done | cbv) (by kernel_rfl) (lb rfl) ?_
        refine nT ?_
        rcases tf (A.zlt x2 a81) with c85 | c85
        · replace hsK86 := cT c85 hsK86
          refine AWp.cdT rfl (by first | rfl | simp only [c75, c85, Bool.not_true, Bool.not_false, cond_true, cond_false]) ?_
          cases hsK86
        · replace hsK86 := cF c85 hsK86
          refine AWp.cdF rfl (by first | rfl | simp only [c75, c85, Bool.not_true, Bool.not_false, cond_true, cond_false]) ?_
          refine AWp.skip ?_
          refine nB ?_
          refine nT ?_
          refine AWp.rg hT hA {} (by (repeat (cbv; simp only [c75, c85])); first | done | cbv) (lb rfl) ?_
          exact nT ⟨_, (soI hsK86).symm, rfl, (by first | (cbv; done) | ((repeat (cbv; simp only [c75, c85])); first | done | cbv))⟩
      · replace hsK86 := cF c75 hsK86
        refine AWp.cdF rfl (by first | rfl | simp only [c75, Bool.not_true, Bool.not_false, cond_true, cond_false]) ?_
        refine AWp.exit ?_
        refine xT ?_
        refine xT ?_
        refine exL hsK86 fun hx => ?_
        subst hx
        exact oxI ⟨rfl, hkK86, (by first | (cbv; done) | ((repeat (cbv; simp only [c75])); first | done | cbv))⟩
    · rintro _ ⟨hkK86, rfl⟩
      have h := (hK86 _ hkK86)
      refine xB ?_
      refine nT ?_
      refine AWp.seq ?_
      refine AWp.rg hT hA { tk := [3, 30] } (by cbv) (lb rfl) ?_
      refine nT ?_
      refine AWp.softR [2] ?_
      refine AWp.ret ?_
      cases soI h
      exact ⟨rfl, rfl, rfl, lb rfl, _, rfl⟩

theorem C59w {A : Ar} (hA : A = Ar.std) {x1 : List D} {x2 : Int} {x3 : List D} {x4 : Int} {v13 : List D} {v14 : Int} (h : C59 A x1 x2 x3 x4 = some (v13, v14)) : ACall Try.prog 59 [(.d (.list 6 x1)), (.func 60 [] [(.iptr [(.int .i64 x2)])]), (.func 62 [] [(.iptr [(.list 6 x3)]), (.iptr [(.int .i64 x4)])])] [] (.tuple [(.d (.list 6 v13)), (.d (.int .i64 v14))]) [] := by
  unfold C59 at h
  refine ACall.enter hT (fn := Try.f59) Try.func59 rfl (by decide) (by simp [Try.f59]) rfl rfl rfl rfl (lb rfl) ?_
  refine AWp.seq ?_
  refine AWp.rg hT hA {} (by cbv) (lb rfl) ?_
  refine nT ?_
  refine AWp.seq ?_
  refine AWp.rg hT hA {} (by cbv) (lb rfl) ?_
  refine nT ?_
  refine AWp.seq ?_
  refine AWp.block ?_
  refine AWp.seq ?_
  refine AWp.region ?_
  obtain ⟨r6, e5, h⟩ := bindS h
  refine AOps.cc hT hA {} (by cbv) (lb rfl) (C114w hA e5) rfl (.inl rfl) rfl rfl rfl (lb rfl) rfl rfl ?_
  refine AOps.cd hT hA {} (by cbv) (lb rfl) ?_
  refine nT ?_
  rcases tf r6 with c7 | c7
  · replace h := cT c7 h
    refine AWp.cdF rfl (by first | rfl | simp only [c7, Bool.not_true, Bool.not_false, cond_true, cond_false]) ?_
    refine AWp.seq ?_
    refine AWp.region ?_
    obtain ⟨r9, e8, h⟩ := bindS h
    refine AOps.cc hT hA {} (by (repeat (cbv; simp only [c7])); first | done | cbv) (lb rfl) (C60w hA e8) rfl (.inl rfl) rfl rfl rfl (lb rfl) rfl rfl ?_
    refine AOps.cd hT hA {} (by (repeat (cbv; simp only [c7])); first | done | cbv) (lb rfl) ?_
    refine nT ?_
    rcases tf r9 with c10 | c10
    · replace h := cT c10 h
      refine AWp.cdF rfl (by first | rfl | simp only [c7, c10, Bool.not_true, Bool.not_false, cond_true, cond_false]) ?_
      refine AWp.skip ?_
      refine nB ?_
      refine nT ?_
      refine AWp.seq ?_
      refine AWp.region ?_
      obtain ⟨r12, e11, h⟩ := bindS h
      refine AOps.cc hT hA {} (by (repeat (cbv; simp only [c7, c10])); first | done | cbv) (lb rfl) (C62w hA e11) rfl (.inl rfl) rfl rfl rfl (lb rfl) rfl rfl ?_
      refine AOps.cd hT hA {} (by (repeat (cbv; simp only [c7, c10])); first | done | cbv) (lb rfl) ?_
      refine nT ?_
      refine AWp.ret ?_
      cases soI h
      exact ⟨rfl, rfl, rfl, lb rfl, _, rfl⟩
    · replace h := cF c10 h
      refine AWp.cdT rfl (by first | rfl | simp only [c7, c10, Bool.not_true, Bool.not_false, cond_true, cond_false]) ?_
      refine AWp.seq ?_
      refine AWp.rg hT hA {} (by (repeat (cbv; simp only [c7, c10])); first | done | cbv) (lb rfl) ?_
      refine nT ?_
      refine AWp.ret ?_
      refine rB ?_
      refine rT ?_
      cases soI h
      exact ⟨rfl, rfl, rfl, lb rfl, _, rfl⟩
  · replace h := cF c7 h
    refine AWp.cdT rfl (by first | rfl | simp only [c7, Bool.not_true, Bool.not_false, cond_true, cond_false]) ?_
    refine AWp.seq ?_
    refine AWp.rg hT hA {} (by (repeat (cbv; simp only [c7])); first | done | cbv) (lb rfl) ?_
    refine nT ?_
    refine AWp.ret ?_
    refine rB ?_
    refine rT ?_
    cases soI h
    exact ⟨rfl, rfl, rfl, lb rfl, _, rfl⟩

theorem C25w {A : Ar} (hA : A = Ar.std) {x1 : List D} {x2 : Int} {v6 : List D} {v7 : Int} (h : C25 A x1 x2 = some (v6, v7)) : ACall Try.prog 25 [(.d (.list 6 x1)), (.d (.int .i64 x2))] [] (.tuple [(.d (.list 6 v6)), (.d (.int .i64 v7))]) [] := by
  unfold C25 at h
  refine ACall.enter hT (fn := Try.f25) Try.func25 rfl (by decide) (by simp [Try.f25]) rfl rfl rfl rfl (lb rfl) ?_
  refine AWp.seq ?_
  refine AWp.rg hT hA {} (by cbv) (lb rfl) ?_
  refine nT ?_
  refine AWp.freezeBox 2 [(.list 6 x1)] rfl rfl ?_
  refine AWp.freezeBox 3 [(.int .i64 x2)] rfl rfl ?_
  refine AWp.seq ?_
  refine AWp.region ?_
  obtain ⟨⟨r4, r5⟩, e3, h⟩ := bindS h
  refine AOps.cc hT hA {} (by cbv) (lb rfl) (C59w hA e3) rfl (.inl rfl) rfl rfl rfl (lb rfl) rfl rfl ?_
  refine AOps.cd hT hA {} (by cbv) (lb rfl) ?_
  refine nT ?_
  refine AWp.ret ?_
  cases soI h
  exact ⟨rfl, rfl, rfl, lb rfl, _, rfl⟩

theorem C65w {A : Ar} (hA : A = Ar.std) {x1 : Int} {v4 : Bool} (h : C65 A x1 = some v4) : ACall Try.prog 65 [(.iptr [(.int .i64 x1)])] [] (.d (.bool v4)) [] := by
  unfold C65 at h
  refine ACall.enter hT (fn := Try.f65) Try.func65 rfl (by decide) (by simp [Try.f65]) rfl rfl rfl rfl (lb rfl) ?_
  refine AWp.seq ?_
  refine AWp.rg hT hA {} (by cbv) (lb rfl) ?_
  refine nT ?_
  refine AWp.seq ?_
  refine AWp.region ?_
  obtain ⟨r3, e2, h⟩ := bindS h
  refine AOps.cc hT hA { tk := [3] } (by cbv) (lb rfl) (C61w hA e2) rfl (.inl rfl) rfl rfl rfl (lb rfl) rfl rfl ?_
  refine AOps.cd hT hA { tk := [3] } (by cbv) (lb rfl) ?_
  refine nT ?_
  refine AWp.ret ?_
  cases soI h
  exact ⟨rfl, rfl, rfl, lb rfl, _, rfl⟩

theorem C67w {A : Ar} (hA : A = Ar.std) {x1 : Int} {x2 : Int} {x3 : Int} {x4 : Int} {x5 : Int} {x6 : Int} {x7 : Int} {v8 : Bool} (h : C67 A x1 x2 x3 x4 x5 x6 x7 = some v8) : ACall Try.prog 67 [(.d (.agg [(.int .i64 x1), (.int .i64 x2), (.int .i64 x3), (.int .i64 x4), (.int .i64 x5), (.int .i64 x6)])), (.iptr [(.int .i64 x7)])] [] (.d (.bool v8)) [] := by
  unfold C67 at h
  refine ACall.enter hT (fn := Try.f67) Try.func67 rfl (by decide) (by simp [Try.f67]) rfl rfl rfl rfl (lb rfl) ?_
  refine AWp.seq ?_
  refine AWp.rg hT hA {} (by cbv) (lb rfl) ?_
  refine nT ?_
  refine AWp.seq ?_
  refine AWp.rg hT hA { tk := [7] } (by cbv) (lb rfl) ?_
  refine nT ?_
  refine AWp.ret ?_
  cases soI h
  exact ⟨rfl, rfl, rfl, lb rfl, _, rfl⟩

theorem C63aw {A : Ar} (hA : A = Ar.std) {x1 : List D} {x2 : Int} {v45 : List D} (h : C63a A x1 x2 = some v45) : ACall Try.prog 63 [(.d (.list 6 x1)), (.func 67 [] [(.iptr [(.int .i64 x2)])])] [] (.own 6 v45) [] := by
  unfold C63a at h
  refine ACall.enter hT (fn := Try.f63) Try.func63 rfl (by decide) (by simp [Try.f63]) rfl rfl rfl rfl (lb rfl) ?_
  refine AWp.seq ?_
  refine AWp.rg hT hA {} (by cbv) (lb rfl) ?_
  refine nT ?_
  refine AWp.seq ?_
  refine AWp.rg hT hA {} (by cbv) (lb rfl) ?_
  refine nT ?_
  refine AWp.seq ?_
  refine AWp.seq ?_
  refine AWp.rg hT hA {} (by cbv) (lb rfl) ?_
  refine nT ?_
  refine AWp.block ?_
  obtain ⟨xK44, hxK44, K44, hK44, hkK44⟩ := bindK h
  refine AWp.cutX 0 [5] [] 0 (lb rfl) (fun τ => ∃ v43, K44 v43 = some v45 ∧ τ = { env := [(5, (.own 6 v43))], heap := [], n := 23 }) ?_ ?_
  · skip
    refine AWp.iter hxK44 [1, 5, 8, 9, 10] [] 0 (lb rfl) (fun (v22, v23) => { env := [(1, (.func 67 [] [(.iptr [(.int .i64 x2)])])), (5, (.own 6 v22)), (8, (.d (.list 6 x1))), (9, (.d (.int .i64 (A.len x1)))), (10, (.d (.int .i64 v23)))], heap := [], n := 23 }) ⟨rfl, (by cbv)⟩ ?_
    rintro ⟨v22, v23⟩ eK44 hsK44
    dsimp only [C63aL0] at hsK44
    refine AWp.seq ?_
    refine AWp.rg hT hA {} (by cbv) (lb rfl) ?_
    refine nT ?_
    refine AWp.seq ?_
    rcases tf (A.zlt v23 (A.len x1)) with c24 | c24
    · replace hsK44 := cT c24 hsK44
      refine AWp.cdT rfl (by first | rfl | simp only [c24, Bool.not_true, Bool.not_false, cond_true, cond_false]) ?_
      refine AWp.skip ?_
      refine nT ?_
      refine AWp.seq ?_
      refine AWp.block ?_
      refine AWp.seq ?_
      obtain ⟨⟨a25, a26, a27, a28, a29, a30⟩, e31, hsK44⟩ := bindS hsK44
      obtain ⟨f32, f33⟩ := gtI e31
      refine AWp.rg hT hA { tk := [13] } (by (repeat (cbv; simp only [c24, f32, f33])); first | done | cbv) (lb rfl) ?_
      refine nT ?_
      refine AWp.seq ?_
      refine AWp.region ?_
      obtain ⟨r35, e34, hsK44⟩ := bindS hsK44
      refine AOps.cc hT hA {} (by (repeat (cbv; simp only [c24])); first | done | cbv) (lb rfl) (C67w hA e34) rfl (.inl rfl) rfl rfl rfl (lb rfl) rfl rfl ?_
      refine AOps.cd hT hA {} (by (repeat (cbv; simp only [c24])); first | done | cbv) (lb rfl) ?_
      refine nT ?_
      obtain ⟨v41, hvK42, hsK44⟩ := bindS hsK44
      refine AWp.cutN [1, 5, 8, 9, 10] [] 0 (lb rfl) (fun τ => τ = { env := [(1, (.func 67 [] [(.iptr [(.int .i64 x2)])])), (5, (.own 6 v41)), (8, (.d (.list 6 x1))), (9, (.d (.int .i64 (A.len x1)))), (10, (.d (.int .i64 v23)))], heap := [], n := 23 }) ?_ ?_
      · skip
        rcases tf r35 with c36 | c36
        · replace hvK42 := cT c36 hvK42
          refine AWp.cdT rfl (by first | rfl | simp only [c24, c36, Bool.not_true, Bool.not_false, cond_true, cond_false]) ?_
          obtain ⟨l37, e38, hvK42⟩ := bindS hvK42
          obtain ⟨f39, f40⟩ := apI e38
          refine AWp.rg hT hA { tk := [5, 20] } (by (repeat (cbv; simp only [c24, c36, f39, f40])); first | done | cbv) (lb rfl) ?_
          cases soI hvK42
          exact oNi ⟨rfl, (by first | (cbv; done) | ((repeat (cbv; simp only [c24, c36])); first | done | cbv))⟩
        · replace hvK42 := cF c36 hvK42
          refine AWp.cdF rfl (by first | rfl | simp only [c24, c36, Bool.not_true, Bool.not_false, cond_true, cond_false]) ?_
          refine AWp.skip ?_
          cases soI hvK42
          exact oNi ⟨rfl, (by first | (cbv; done) | ((repeat (cbv; simp only [c24, c36])); first | done | cbv))⟩
      · rintro _ rfl
        refine nB ?_
        refine nT ?_
        refine AWp.rg hT hA {} (by cbv) (lb rfl) ?_
        exact nT ⟨_, (soI hsK44).symm, rfl, (by cbv)⟩
    · replace hsK44 := cF c24 hsK44
      refine AWp.cdF rfl (by first | rfl | simp only [c24, Bool.not_true, Bool.not_false, cond_true, cond_false]) ?_
      refine AWp.exit ?_
      refine xT ?_
      refine xT ?_
      refine exL hsK44 fun hx => ?_
      subst hx
      exact oxI ⟨rfl, _, hkK44, (by first | (cbv; done) | ((repeat (cbv; simp only [c24])); first | done | cbv))⟩
  · rintro _ ⟨v43, hkK44, rfl⟩
    have h := (hK44 _ hkK44)
    refine xB ?_
    refine nT ?_
    refine AWp.seq ?_
    refine AWp.rg hT hA { tk := [5, 22] } (by cbv) (lb rfl) ?_
    refine nT ?_
    refine AWp.ret ?_
    cases soI h
    exact ⟨rfl, rfl, rfl, lb rfl, _, rfl⟩

theorem C66w {A : Ar} (hA : A = Ar.std) {x1 : List D} {x2 : Int} {v5 : List D} (h : C66 A x1 x2 = some v5) : ACall Try.prog 66 [(.iptr [(.list 6 x1)]), (.iptr [(.int .i64 x2)])] [] (.own 6 v5) [] := by
  unfold C66 at h
  refine ACall.enter hT (fn := Try.f66) Try.func66 rfl (by decide) (by simp [Try.f66]) rfl rfl rfl rfl (lb rfl) ?_
  refine AWp.seq ?_
  refine AWp.rg hT hA {} (by cbv) (lb rfl) ?_
  refine nT ?_
  refine AWp.seq ?_
  refine AWp.region ?_
  obtain ⟨r4, e3, h⟩ := bindS h
  refine AOps.cc hT hA { tk := [5] } (by cbv) (lb rfl) (C63aw hA e3) rfl (.inl rfl) rfl rfl rfl (lb rfl) rfl rfl ?_
  refine AOps.cd hT hA { tk := [5] } (by cbv) (lb rfl) ?_
  refine nT ?_
  refine AWp.ret ?_
  cases soI h
  exact ⟨rfl, rfl, rfl, lb rfl, _, rfl⟩

theorem C59aw {A : Ar} (hA : A = Ar.std) {x1 : List D} {x2 : Int} {x3 : List D} {x4 : Int} {v13 : List D} {v14 : Int} (h : C59a A x1 x2 x3 x4 = some (v13, v14)) : ACall Try.prog 59 [(.d (.list 6 x1)), (.func 65 [] [(.iptr [(.int .i64 x2)])]), (.func 66 [] [(.iptr [(.list 6 x3)]), (.iptr [(.int .i64 x4)])])] [] (.tuple [(.d (.list 6 v13)), (.d (.int .i64 v14))]) [] := by
  unfold C59a at h
  refine ACall.enter hT (fn := Try.f59) Try.func59 rfl (by decide) (by simp [Try.f59]) rfl rfl rfl rfl (lb rfl) ?_
  refine AWp.seq ?_
  refine AWp.rg hT hA {} (by cbv) (lb rfl) ?_
  refine nT ?_
  refine AWp.seq ?_
  refine AWp.rg hT hA {} (by cbv) (lb rfl) ?_
  refine nT ?_
  refine AWp.seq ?_
  refine AWp.block ?_
  refine AWp.seq ?_
  refine AWp.region ?_
  obtain ⟨r6, e5, h⟩ := bindS h
  refine AOps.cc hT hA {} (by cbv) (lb rfl) (C114w hA e5) rfl (.inl rfl) rfl rfl rfl (lb rfl) rfl rfl ?_
  refine AOps.cd hT hA {} (by cbv) (lb rfl) ?_
  refine nT ?_
  rcases tf r6 with c7 | c7
  · replace h := cT c7 h
    refine AWp.cdF rfl (by first | rfl | simp only [c7, Bool.not_true, Bool.not_false, cond_true, cond_false]) ?_
    refine AWp.seq ?_
    refine AWp.region ?_
    obtain ⟨r9, e8, h⟩ := bindS h
    refine AOps.cc hT hA {} (by (repeat (cbv; simp only [c7])); first | done | cbv) (lb rfl) (C65w hA e8) rfl (.inl rfl) rfl rfl rfl (lb rfl) rfl rfl ?_
    refine AOps.cd hT hA {} (by (repeat (cbv; simp only [c7])); first | done | cbv) (lb rfl) ?_
    refine nT ?_
    rcases tf r9 with c10 | c10
    · replace h := cT c10 h
      refine AWp.cdF rfl (by first | rfl | simp only [c7, c10, Bool.not_true, Bool.not_false, cond_true, cond_false]) ?_
      refine AWp.skip ?_
      refine nB ?_
      refine nT ?_
      refine AWp.seq ?_
      refine AWp.region ?_
      obtain ⟨r12, e11, h⟩ := bindS h
      refine AOps.cc hT hA {} (by (repeat (cbv; simp only [c7, c10])); first | done | cbv) (lb rfl) (C66w hA e11) rfl (.inl rfl) rfl rfl rfl (lb rfl) rfl rfl ?_
      refine AOps.cd hT hA {} (by (repeat (cbv; simp only [c7, c10])); first | done | cbv) (lb rfl) ?_
      refine nT ?_
      refine AWp.ret ?_
      cases soI h
      exact ⟨rfl, rfl, rfl, lb rfl, _, rfl⟩
    · replace h := cF c10 h
      refine AWp.cdT rfl (by first | rfl | simp only [c7, c10, Bool.not_true, Bool.not_false, cond_true, cond_false]) ?_
      refine AWp.seq ?_
      refine AWp.rg hT hA {} (by (repeat (cbv; simp only [c7, c10])); first | done | cbv) (lb rfl) ?_
      refine nT ?_
      refine AWp.ret ?_
      refine rB ?_
      refine rT ?_
      cases soI h
      exact ⟨rfl, rfl, rfl, lb rfl, _, rfl⟩
  · replace h := cF c7 h
    refine AWp.cdT rfl (by first | rfl | simp only [c7, Bool.not_true, Bool.not_false, cond_true, cond_false]) ?_
    refine AWp.seq ?_
    refine AWp.rg hT hA {} (by (repeat (cbv; simp only [c7])); first | done | cbv) (lb rfl) ?_
    refine nT ?_
    refine AWp.ret ?_
    refine rB ?_
    refine rT ?_
    cases soI h
    exact ⟨rfl, rfl, rfl, lb rfl, _, rfl⟩

theorem C26w {A : Ar} (hA : A = Ar.std) {x1 : List D} {x2 : Int} {v6 : List D} {v7 : Int} (h : C26 A x1 x2 = some (v6, v7)) : ACall Try.prog 26 [(.d (.list 6 x1)), (.d (.int .i64 x2))] [] (.tuple [(.d (.list 6 v6)), (.d (.int .i64 v7))]) [] := by
  unfold C26 at h
  refine ACall.enter hT (fn := Try.f26) Try.func26 rfl (by decide) (by simp [Try.f26]) rfl rfl rfl rfl (lb rfl) ?_
  refine AWp.seq ?_
  refine AWp.rg hT hA {} (by cbv) (lb rfl) ?_
  refine nT ?_
  refine AWp.freezeBox 2 [(.list 6 x1)] rfl rfl ?_
  refine AWp.freezeBox 3 [(.int .i64 x2)] rfl rfl ?_
  refine AWp.seq ?_
  refine AWp.region ?_
  obtain ⟨⟨r4, r5⟩, e3, h⟩ := bindS h
  refine AOps.cc hT hA {} (by cbv) (lb rfl) (C59aw hA e3) rfl (.inl rfl) rfl rfl rfl (lb rfl) rfl rfl ?_
  refine AOps.cd hT hA {} (by cbv) (lb rfl) ?_
  refine nT ?_
  refine AWp.ret ?_
  cases soI h
  exact ⟨rfl, rfl, rfl, lb rfl, _, rfl⟩

theorem C4w {A : Ar} (hA : A = Ar.std) {x1 : Int} {x2 : Int} {x3 : List D} {x4 : List D} {x5 : List D} {x6 : List D} {x7 : List D} {x8 : Int} {v190 : Bool} (h : C4 A x1 x2 x3 x4 x5 x6 x7 x8 = some v190) : ACall Try.prog 4 [(.d (.agg [(.int .i64 x1), (.int .i64 x2), (.list 1 x3), (.list 1 x4), (.list 1 x5), (.list 1 x6)])), (.d (.list 1 x7)), (.d (.int .u8 x8))] [] (.d (.bool v190)) [] := by
  unfold C4 at h
  refine ACall.enter hT (fn := Try.f4) Try.func4 rfl (by decide) (by simp [Try.f4]) rfl rfl rfl rfl (lb rfl) ?_
  refine AWp.seq ?_
  refine AWp.rg hT hA {} (by cbv) (lb rfl) ?_
  refine nT ?_
  refine AWp.seq ?_
  refine AWp.seq ?_
  obtain ⟨v12, hvK13, h⟩ := bindS h
  refine AWp.cutN [1, 2, 3, 28] [] 0 (lb rfl) (fun τ => τ = { env := [(1, (.d (.list 1 x7))), (2, (.d (.int .u8 x8))), (3, (.lbox [(.d (.int .i64 x1)), (.d (.int .i64 x2)), (.d (.list 1 x3)), (.d (.list 1 x4)), (.d (.list 1 x5)), (.d (.list 1 x6))])), (28, (.d (.bool v12)))], heap := [], n := 167 }) ?_ ?_
  · skip
    refine AWp.region ?_
    obtain ⟨r10, e9, hvK13⟩ := bindS hvK13
    refine AOps.cc hT hA {} (by cbv) (lb rfl) (C23w hA e9) rfl (.inl rfl) rfl rfl rfl (lb rfl) rfl rfl ?_
    rcases tf r10 with c11 | c11
    · replace hvK13 := cT c11 hvK13
      refine AOps.cd hT hA {} (by (repeat (cbv; simp only [c11])); first | done | cbv) (lb rfl) ?_
      cases soI hvK13
      exact oNi ⟨rfl, (by first | (cbv; done) | ((repeat (cbv; simp only [c11])); first | done | cbv))⟩
    · replace hvK13 := cF c11 hvK13
      refine AOps.cd hT hA {} (by (repeat (cbv; simp only [c11])); first | done | cbv) (lb rfl) ?_
      cases soI hvK13
      exact oNi ⟨rfl, (by first | (cbv; done) | ((repeat (cbv; simp only [c11])); first | done | cbv))⟩
  · rintro _ rfl
    refine nT ?_
    rcases tf v12 with c14 | c14
    · replace h := cT c14 h
      refine AWp.cdT rfl (by first | rfl | simp only [c14, Bool.not_true, Bool.not_false, cond_true, cond_false]) ?_
      refine AWp.seq ?_
      refine AWp.region ?_
      obtain ⟨r16, e15, h⟩ := bindS h
      refine AOps.cc hT hA { tk := [29] } (by (repeat (cbv; simp only [c14])); first | done | cbv) (lb rfl) (C10w hA e15) rfl (.inl rfl) rfl rfl rfl (lb rfl) rfl rfl ?_
      refine AOps.cd hT hA { tk := [29] } (by (repeat (cbv; simp only [c14])); first | done | cbv) (lb rfl) ?_
      refine nT ?_
      refine AWp.ret ?_
      refine rT ?_
      cases soI h
      exact ⟨rfl, rfl, rfl, lb rfl, _, rfl⟩
    · replace h := cF c14 h
      refine AWp.cdF rfl (by first | rfl | simp only [c14, Bool.not_true, Bool.not_false, cond_true, cond_false]) ?_
      refine AWp.skip ?_
      refine nT ?_
      refine AWp.seq ?_
      refine AWp.region ?_
      obtain ⟨⟨r18, r19, r20⟩, e17, h⟩ := bindS h
      refine AOps.cc hT hA {} (by (repeat (cbv; simp only [c14])); first | done | cbv) (lb rfl) (C24w hA e17) rfl (.inl rfl) rfl rfl rfl (lb rfl) rfl rfl ?_
      refine AOps.cd hT hA {} (by (repeat (cbv; simp only [c14])); first | done | cbv) (lb rfl) ?_
      refine nT ?_
      refine AWp.seq ?_
      refine AWp.seq ?_
      refine AWp.rg hT hA {} (by (repeat (cbv; simp only [c14])); first | done | cbv) (lb rfl) ?_
      refine nT ?_
      rcases tf r20 with c21 | c21
      · replace h := cT c21 h
        refine AWp.cdF rfl (by first | rfl | simp only [c14, c21, Bool.not_true, Bool.not_false, cond_true, cond_false]) ?_
        refine AWp.skip ?_
        refine nT ?_
        refine AWp.seq ?_
        refine AWp.region ?_
        obtain ⟨⟨r23, r24⟩, e22, h⟩ := bindS h
        refine AOps.cc hT hA {} (by (repeat (cbv; simp only [c14, c21])); first | done | cbv) (lb rfl) (C13w hA e22) rfl (.inl rfl) rfl rfl rfl (lb rfl) rfl rfl ?_
        refine AOps.cd hT hA {} (by (repeat (cbv; simp only [c14, c21])); first | done | cbv) (lb rfl) ?_
        refine nT ?_
        refine AWp.seq ?_
        obtain ⟨_, e25, h⟩ := bindS h
        have f26 := nkI e25
        refine AWp.rg hT hA {} (by (repeat (cbv; simp only [c14, c21, f26])); first | done | cbv) (lb rfl) ?_
        refine nT ?_
        refine AWp.seq ?_
        refine AWp.regionDraw rfl (lb rfl) ?_
        obtain ⟨l27, e28, h⟩ := bindS h
        obtain ⟨f29, f30, f31, f32⟩ := slI e28
        obtain ⟨⟨r34, r35⟩, e33, h⟩ := bindS h
        refine DOps.c0 hT hA {} rfl (by (repeat (cbv; simp only [c14, c21, f29, f30, f31, f32])); first | done | cbv) (C13w hA e33) rfl rfl (lb rfl) rfl rfl ?_
        refine DOps.cd hT hA {} rfl (by (repeat (cbv; simp only [c14, c21, f29, f30, f31, f32])); first | done | cbv) (by kernel_rfl) ?_
        refine nT ?_
        refine AWp.seq ?_
        refine AWp.region ?_
        obtain ⟨⟨r37, r38⟩, e36, h⟩ := bindS h
        refine AOps.cc hT hA {} (by (repeat (cbv; simp only [c14, c21])); first | done | cbv) (lb rfl) (C25w hA e36) rfl (.inl rfl) rfl rfl rfl (lb rfl) rfl rfl ?_
        refine AOps.cd hT hA {} (by (repeat (cbv; simp only [c14, c21])); first | done | cbv) (lb rfl) ?_
        refine nT ?_
        refine AWp.seq ?_
        refine AWp.seq ?_
        obtain ⟨v44, hvK45, h⟩ := bindS h
        refine AWp.cutN [3, 8, 10, 87] [] 0 (lb rfl) (fun τ => τ = { env := [(3, (.lbox [(.d (.int .i64 x1)), (.d (.int .i64 x2)), (.d (.list 1 x3)), (.d (.list 1 x4)), (.d (.list 1 x5)), (.d (.list 1 x6))])), (8, (.d (.bool r19))), (10, (.d (.list 6 r23))), (87, (.d (.bool v44)))], heap := [], n := 167 }) ?_ ?_
        · skip
          refine AWp.region ?_
          rcases tf (A.zeq r24 0) with c39 | c39
          · replace hvK45 := cT c39 hvK45
            rcases tf (A.zeq r35 0) with c40 | c40
            · replace hvK45 := cT c40 hvK45
              rcases tf (A.zeq r38 0) with c41 | c41
              · replace hvK45 := cT c41 hvK45
                obtain ⟨r43, e42, hvK45⟩ := bindS hvK45
                refine AOps.cc hT hA {} (by (repeat (cbv; simp only [c14, c21, c39, c40, c41])); first | done | cbv) (lb rfl) (C17w hA e42) rfl (.inl rfl) rfl rfl rfl (lb rfl) rfl rfl ?_
                refine AOps.cd hT hA {} (by (repeat (cbv; simp only [c14, c21, c39, c40, c41])); first | done | cbv) (lb rfl) ?_
                cases soI hvK45
                exact oNi ⟨rfl, (by first | (cbv; done) | ((repeat (cbv; simp only [c14, c21, c39, c40, c41])); first | done | cbv))⟩
              · replace hvK45 := cF c41 hvK45
                refine AOps.cd hT hA {} (by (repeat (cbv; simp only [c14, c21, c39, c40, c41])); first | done | cbv) (lb rfl) ?_
                cases soI hvK45
                exact oNi ⟨rfl, (by first | (cbv; done) | ((repeat (cbv; simp only [c14, c21, c39, c40, c41])); first | done | cbv))⟩
            · replace hvK45 := cF c40 hvK45
              refine AOps.cd hT hA {} (by (repeat (cbv; simp only [c14, c21, c39, c40])); first | done | cbv) (lb rfl) ?_
              cases soI hvK45
              exact oNi ⟨rfl, (by first | (cbv; done) | ((repeat (cbv; simp only [c14, c21, c39, c40])); first | done | cbv))⟩
          · replace hvK45 := cF c39 hvK45
            refine AOps.cd hT hA {} (by (repeat (cbv; simp only [c14, c21, c39])); first | done | cbv) (lb rfl) ?_
            cases soI hvK45
            exact oNi ⟨rfl, (by first | (cbv; done) | ((repeat (cbv; simp only [c14, c21, c39])); first | done | cbv))⟩
        · rintro _ rfl
          refine nT ?_
          rcases tf v44 with c46 | c46
          · replace h := cT c46 h
            refine AWp.cdT rfl (by first | rfl | simp only [c46, Bool.not_true, Bool.not_false, cond_true, cond_false]) ?_
            refine AWp.seq ?_
            refine AWp.rg hT hA {} (by (repeat (cbv; simp only [c46])); first | done | cbv) (lb rfl) ?_
            refine nT ?_
            refine AWp.ret ?_
            refine rT ?_
            cases soI h
            exact ⟨rfl, rfl, rfl, lb rfl, _, rfl⟩
          · replace h := cF c46 h
            refine AWp.cdF rfl (by first | rfl | simp only [c46, Bool.not_true, Bool.not_false, cond_true, cond_false]) ?_
            refine AWp.skip ?_
            refine nT ?_
            refine AWp.seq ?_
            refine AWp.seq ?_
            refine AWp.rg hT hA {} (by (repeat (cbv; simp only [c46])); first | done | cbv) (lb rfl) ?_
            refine nT ?_
            refine AWp.block ?_
            obtain ⟨xK187, hxK187, K187, hK187, hkK187⟩ := bindK h
            refine AWp.cutX 0 [] [] 0 (lb rfl) (fun τ => K187 (.inl ()) = some v190 ∧ τ = { env := [], heap := [], n := 167 }) ?_ ?_
            · skip
              refine AWp.iter hxK187 [3, 8, 10, 17] [] 0 (lb rfl) (fun (v116, v117) => { env := [(3, (.lbox [(.d (.int .i64 x1)), (.d (.int .i64 x2)), (.d (.list 1 x3)), (.d (.list 1 x4)), (.d (.list 1 x5)), (.d (.list 1 x6))])), (8, (.d (.bool v116))), (10, (.d (.list 6 r23))), (17, (.d (.int .i64 v117)))], heap := [], n := 167 }) ⟨rfl, (by first | (cbv; done) | ((repeat (cbv; simp only [c46])); first | done | cbv))⟩ ?_
              rintro ⟨v116, v117⟩ eK187 hsK187
              dsimp only [C4L1] at hsK187
              refine AWp.seq ?_
              refine AWp.seq ?_
              refine AWp.rg hT hA {} (by cbv) (lb rfl) ?_
              refine nT ?_
              rcases tf (A.zlt v117 (A.len x6)) with c118 | c118
              · replace hsK187 := cT c118 hsK187
                refine AWp.cdT rfl (by first | rfl | simp only [c118, Bool.not_true, Bool.not_false, cond_true, cond_false]) ?_
                refine AWp.skip ?_
                refine nT ?_
                refine AWp.seq ?_
                refine AWp.block ?_
                refine AWp.seq ?_
                refine AWp.region ?_
                obtain ⟨⟨r120, r121⟩, e119, hsK187⟩ := bindS hsK187
                refine AOps.cc hT hA {} (by (repeat (cbv; simp only [c118])); first | done | cbv) (lb rfl) (C26w hA e119) rfl (.inl rfl) rfl rfl rfl (lb rfl) rfl rfl ?_
                refine AOps.cd hT hA {} (by (repeat (cbv; simp only [c118])); first | done | cbv) (lb rfl) ?_
                refine nT ?_
                refine AWp.seq ?_
                refine AWp.seq ?_
                obtain ⟨⟨v129, v130⟩, hvK131, hsK187⟩ := bindS hsK187
                refine AWp.cutN [3, 8, 10, 17, 18, 127] [] 0 (lb rfl) (fun τ => τ = { env := [(3, (.lbox [(.d (.int .i64 x1)), (.d (.int .i64 x2)), (.d (.list 1 x3)), (.d (.list 1 x4)), (.d (.list 1 x5)), (.d (.list 1 x6))])), (8, (.d (.bool v129))), (10, (.d (.list 6 r23))), (17, (.d (.int .i64 v117))), (18, (.d (.list 6 r120))), (127, (.d (.bool v130)))], heap := [], n := 167 }) ?_ ?_
                · skip
                  rcases tf (A.zeq r121 0) with c122 | c122
                  · replace hvK131 := cT c122 hvK131
                    obtain ⟨a123, e124, hvK131⟩ := bindS hvK131
                    obtain ⟨f125, f126⟩ := gtI e124
                    rcases tf (A.zlt (A.len a123) (A.len r120)) with c127 | c127
                    · replace hvK131 := cT c127 hvK131
                      refine AWp.rg hT hA {} (by (repeat (cbv; simp only [c118, c122, c127, f125, f126])); first | done | cbv) (lb rfl) ?_
                      cases soI hvK131
                      exact oNi ⟨rfl, (by first | (cbv; done) | ((repeat (cbv; simp only [c118, c122, c127])); first | done | cbv))⟩
                    · replace hvK131 := cF c127 hvK131
                      rcases tf v116 with c128 | c128
                      · replace hvK131 := cT c128 hvK131
                        refine AWp.rg hT hA {} (by (repeat (cbv; simp only [c118, c122, c127, c128, f125, f126])); first | done | cbv) (lb rfl) ?_
                        cases soI hvK131
                        exact oNi ⟨rfl, (by first | (cbv; done) | ((repeat (cbv; simp only [c118, c122, c127, c128])); first | done | cbv))⟩
                      · replace hvK131 := cF c128 hvK131
                        refine AWp.rg hT hA {} (by (repeat (cbv; simp only [c118, c122, c127, c128, f125, f126])); first | done | cbv) (lb rfl) ?_
                        cases soI hvK131
                        exact oNi ⟨rfl, (by first | (cbv; done) | ((repeat (cbv; simp only [c118, c122, c127, c128])); first | done | cbv))⟩
                  · replace hvK131 := cF c122 hvK131
                    refine AWp.rg hT hA {} (by (repeat (cbv; simp only [c118, c122])); first | done | cbv) (lb rfl) ?_
                    cases soI hvK131
                    exact oNi ⟨rfl, (by first | (cbv; done) | ((repeat (cbv; simp only [c118, c122])); first | done | cbv))⟩
                · rintro _ rfl
                  refine nT ?_
                  rcases tf v130 with c132 | c132
                  · replace hsK187 := cT c132 hsK187
                    refine AWp.cdT rfl (by first | rfl | simp only [c132, Bool.not_true, Bool.not_false, cond_true, cond_false]) ?_
                    refine AWp.seq ?_
                    refine AWp.rg hT hA {} (by (repeat (cbv; simp only [c132])); first | done | cbv) (lb rfl) ?_
                    refine nT ?_
                    refine AWp.ret ?_
                    refine rT ?_
                    refine rB ?_
                    refine rT ?_
                    refine rT ?_
                    refine exL hsK187 fun hx => ?_
                    subst hx
                    refine oxR ?_
                    replace hkK187 := (eR (hK187 _ hkK187))
                    refine rB ?_
                    refine rT ?_
                    cases soI hkK187
                    exact ⟨rfl, rfl, rfl, lb rfl, _, rfl⟩
                  · replace hsK187 := cF c132 hsK187
                    refine AWp.cdF rfl (by first | rfl | simp only [c132, Bool.not_true, Bool.not_false, cond_true, cond_false]) ?_
                    refine AWp.skip ?_
                    refine nT ?_
                    refine AWp.seq ?_
                    refine AWp.rg hT hA {} (by (repeat (cbv; simp only [c132])); first | done | cbv) (lb rfl) ?_
                    refine nT ?_
                    refine AWp.block ?_
                    obtain ⟨xK186, hxK186, K186, hK186, hkK186⟩ := bindK hsK187
                    refine AWp.cutX 2 [3, 8, 10, 17] [] 0 (lb rfl) (fun τ => ∃ v185, K186 (.inl v185) = some eK187 ∧ τ = { env := [(3, (.lbox [(.d (.int .i64 x1)), (.d (.int .i64 x2)), (.d (.list 1 x3)), (.d (.list 1 x4)), (.d (.list 1 x5)), (.d (.list 1 x6))])), (8, (.d (.bool v185))), (10, (.d (.list 6 r23))), (17, (.d (.int .i64 v117)))], heap := [], n := 167 }) ?_ ?_
                    · skip
                      refine AWp.iter hxK186 [3, 8, 10, 17, 18, 20] [] 0 (lb rfl) (fun (v158, v159) => { env := [(3, (.lbox [(.d (.int .i64 x1)), (.d (.int .i64 x2)), (.d (.list 1 x3)), (.d (.list 1 x4)), (.d (.list 1 x5)), (.d (.list 1 x6))])), (8, (.d (.bool v158))), (10, (.d (.list 6 r23))), (17, (.d (.int .i64 v117))), (18, (.d (.list 6 r120))), (20, (.d (.int .i64 v159)))], heap := [], n := 167 }) ⟨rfl, (by first | (cbv; done) | ((repeat (cbv; simp only [c132])); first | done | cbv))⟩ ?_
                      rintro ⟨v158, v159⟩ eK186 hsK186
                      dsimp only [C4L0] at hsK186
                      refine AWp.seq ?_
                      refine AWp.seq ?_
                      refine AWp.rg hT hA {} (by cbv) (lb rfl) ?_
                      refine nT ?_
                      rcases tf (A.zlt v159 (A.len r120)) with c160 | c160
                      · replace hsK186 := cT c160 hsK186
                        refine AWp.cdT rfl (by first | rfl | simp only [c160, Bool.not_true, Bool.not_false, cond_true, cond_false]) ?_
                        refine AWp.skip ?_
                        refine nT ?_
                        refine AWp.seq ?_
                        refine AWp.block ?_
                        refine AWp.seq ?_
                        obtain ⟨⟨v181, v182⟩, hvK183, hsK186⟩ := bindS hsK186
                        refine AWp.cutN [3, 8, 10, 17, 18, 20, 165] [] 0 (lb rfl) (fun τ => τ = { env := [(3, (.lbox [(.d (.int .i64 x1)), (.d (.int .i64 x2)), (.d (.list 1 x3)), (.d (.list 1 x4)), (.d (.list 1 x5)), (.d (.list 1 x6))])), (8, (.d (.bool v181))), (10, (.d (.list 6 r23))), (17, (.d (.int .i64 v117))), (18, (.d (.list 6 r120))), (20, (.d (.int .i64 v159))), (165, (.d (.bool v182)))], heap := [], n := 167 }) ?_ ?_
                        · skip
                          obtain ⟨⟨a161, a162, a163, a164, a165, a166⟩, e167, hvK183⟩ := bindS hvK183
                          obtain ⟨f168, f169⟩ := gtI e167
                          obtain ⟨a170, e171, hvK183⟩ := bindS hvK183
                          obtain ⟨f172, f173⟩ := gtI e171
                          obtain ⟨a174, e175, hvK183⟩ := bindS hvK183
                          obtain ⟨f176, f177⟩ := gtI e175
                          rcases tf (A.zeq a163 a174) with c178 | c178
                          · replace hvK183 := cT c178 hvK183
                            rcases tf (A.zeq a166 0) with c179 | c179
                            · replace hvK183 := cT c179 hvK183
                              rcases tf v158 with c180 | c180
                              · replace hvK183 := cT c180 hvK183
                                refine AWp.rd hT hA {} rfl (by (repeat (cbv; simp only [c160, c178, c179, c180, f168, f169, f172, f173, f176, f177])); first | done | cbv) (by kernel_rfl) (lb rfl) ?_
                                cases soI hvK183
                                exact oNi ⟨rfl, (by first | (cbv; done) | ((repeat (cbv; simp only [c160, c178, c179, c180])); first | done | cbv))⟩
                              · replace hvK183 := cF c180 hvK183
                                refine AWp.rd hT hA {} rfl (by (repeat (cbv; simp only [c160, c178, c179, c180, f168, f169, f172, f173, f176, f177])); first | done | cbv) (by kernel_rfl) (lb rfl) ?_
                                cases soI hvK183
                                exact oNi ⟨rfl, (by first | (cbv; done) | ((repeat (cbv; simp only [c160, c178, c179, c180])); first | done | cbv))⟩
                            · replace hvK183 := cF c179 hvK183
                              refine AWp.rd hT hA {} rfl (by (repeat (cbv; simp only [c160, c178, c179, f168, f169, f172, f173, f176, f177])); first | done | cbv) (by kernel_rfl) (lb rfl) ?_
                              cases soI hvK183
                              exact oNi ⟨rfl, (by first | (cbv; done) | ((repeat (cbv; simp only [c160, c178, c179])); first | done | cbv))⟩
                          · replace hvK183 := cF c178 hvK183
                            refine AWp.rd hT hA {} rfl (by (repeat (cbv; simp only [c160, c178, f168, f169, f172, f173, f176, f177])); first | done | cbv) (by kernel_rfl) (lb rfl) ?_
                            cases soI hvK183
                            exact oNi ⟨rfl, (by first | (cbv; done) | ((repeat (cbv; simp only [c160, c178])); first | done | cbv))⟩
                        · rintro _ rfl
                          refine nT ?_
                          rcases tf v182 with c184 | c184
                          · replace hsK186 := cT c184 hsK186
                            refine AWp.cdT rfl (by first | rfl | simp only [c184, Bool.not_true, Bool.not_false, cond_true, cond_false]) ?_
                            refine AWp.seq ?_
                            refine AWp.rg hT hA {} (by (repeat (cbv; simp only [c184])); first | done | cbv) (lb rfl) ?_
                            refine nT ?_
                            refine AWp.ret ?_
                            refine rB ?_
                            refine rT ?_
                            refine rT ?_
                            refine exL hsK186 fun hx => ?_
                            subst hx
                            refine oxR ?_
                            replace hkK186 := (eR (hK186 _ hkK186))
                            refine rB ?_
                            refine rB ?_
                            refine rT ?_
                            refine rT ?_
                            refine exL hkK186 fun hx => ?_
                            subst hx
                            refine oxR ?_
                            replace hkK187 := (eR (hK187 _ hkK187))
                            refine rB ?_
                            refine rT ?_
                            cases soI hkK187
                            exact ⟨rfl, rfl, rfl, lb rfl, _, rfl⟩
                          · replace hsK186 := cF c184 hsK186
                            refine AWp.cdF rfl (by first | rfl | simp only [c184, Bool.not_true, Bool.not_false, cond_true, cond_false]) ?_
                            refine AWp.skip ?_
                            refine nB ?_
                            refine nT ?_
                            refine AWp.rg hT hA {} (by (repeat (cbv; simp only [c184])); first | done | cbv) (lb rfl) ?_
                            exact nT ⟨_, (soI hsK186).symm, rfl, (by first | (cbv; done) | ((repeat (cbv; simp only [c184])); first | done | cbv))⟩
                      · replace hsK186 := cF c160 hsK186
                        refine AWp.cdF rfl (by first | rfl | simp only [c160, Bool.not_true, Bool.not_false, cond_true, cond_false]) ?_
                        refine AWp.exit ?_
                        refine xT ?_
                        refine xT ?_
                        refine exL hsK186 fun hx => ?_
                        subst hx
                        exact oxI ⟨rfl, _, hkK186, (by first | (cbv; done) | ((repeat (cbv; simp only [c160])); first | done | cbv))⟩
                    · rintro _ ⟨v185, hkK186, rfl⟩
                      have hsK187 := (eL (hK186 _ hkK186))
                      refine xB ?_
                      refine nB ?_
                      refine nT ?_
                      refine AWp.rg hT hA {} (by cbv) (lb rfl) ?_
                      exact nT ⟨_, (soI hsK187).symm, rfl, (by cbv)⟩
              · replace hsK187 := cF c118 hsK187
                refine AWp.cdF rfl (by first | rfl | simp only [c118, Bool.not_true, Bool.not_false, cond_true, cond_false]) ?_
                refine AWp.exit ?_
                refine xT ?_
                refine xT ?_
                refine exL hsK187 fun hx => ?_
                subst hx
                exact oxI ⟨rfl, hkK187, (by first | (cbv; done) | ((repeat (cbv; simp only [c118])); first | done | cbv))⟩
            · rintro _ ⟨hkK187, rfl⟩
              have h := (eL (hK187 _ hkK187))
              refine xB ?_
              refine nT ?_
              refine AWp.seq ?_
              refine AWp.region ?_
              obtain ⟨r189, e188, h⟩ := bindS h
              refine AOps.cc hT hA { tk := [166] } (by cbv) (lb rfl) (C10w hA e188) rfl (.inl rfl) rfl rfl rfl (lb rfl) rfl rfl ?_
              refine AOps.cd hT hA { tk := [166] } (by cbv) (lb rfl) ?_
              refine nT ?_
              refine AWp.ret ?_
              cases soI h
              exact ⟨rfl, rfl, rfl, lb rfl, _, rfl⟩
      · replace h := cF c21 h
        refine AWp.cdT rfl (by first | rfl | simp only [c14, c21, Bool.not_true, Bool.not_false, cond_true, cond_false]) ?_
        refine AWp.seq ?_
        refine AWp.rg hT hA {} (by (repeat (cbv; simp only [c14, c21])); first | done | cbv) (lb rfl) ?_
        refine nT ?_
        refine AWp.ret ?_
        refine rT ?_
        cases soI h
        exact ⟨rfl, rfl, rfl, lb rfl, _, rfl⟩
end Go.Am
