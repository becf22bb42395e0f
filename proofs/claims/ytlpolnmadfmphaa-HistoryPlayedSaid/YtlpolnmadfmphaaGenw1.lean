/- Own text: Genw1. -/
import Derived.Test.YtlpolnmadfmphaaGenw0
set_option maxRecDepth 100000
set_option maxHeartbeats 2000000
set_option linter.unusedVariables false
set_option linter.unusedSimpArgs false
namespace Go.Am
open Go Go.Proofs
theorem H80w {A : Ar} (hA : A = Ar.std) (h : H80 A = some ()) : ACall Try.prog 80 [] [] (.d (.bool true)) [] := by
  unfold H80 at h
  refine ACall.enter hT (fn := Try.f80) Try.func80 rfl (by decide) (by simp [Try.f80]) rfl rfl rfl rfl (lb rfl) ?_
  refine AWp.seq ?_
  refine AWp.rg hT hA {} (by cbv) (lb rfl) ?_
  refine nT ?_
  refine AWp.seq ?_
  refine AWp.rg hT hA {} (by cbv) (lb rfl) ?_
  refine nT ?_
  refine AWp.ret ?_
  cases soI h
  exact ⟨rfl, rfl, rfl, lb rfl, _, rfl⟩

theorem H118w {A : Ar} (hA : A = Ar.std) {x1 : Int} {x2 : Int} {x3 : Int} {x4 : Int} {x5 : Int} {x6 : Int} {x7 : Int} {x8 : Int} {x9 : Int} {x10 : Int} {x11 : Int} {x12 : Int} {v17 : Bool} (h : H118 A x1 x2 x3 x4 x5 x6 x7 x8 x9 x10 x11 x12 = some v17) : ACall Try.prog 118 [(.d (.agg [(.int .i64 x1), (.int .i64 x2), (.int .i64 x3), (.int .i64 x4), (.int .i64 x5), (.int .i64 x6)])), (.ptr 0 0)] [(.cells [(.d (.int .i64 x7)), (.d (.int .i64 x8)), (.d (.int .i64 x9)), (.d (.int .i64 x10)), (.d (.int .i64 x11)), (.d (.int .i64 x12))])] (.d (.bool v17)) [(.cells [(.d (.int .i64 x7)), (.d (.int .i64 x8)), (.d (.int .i64 x9)), (.d (.int .i64 x10)), (.d (.int .i64 x11)), (.d (.int .i64 x12))])] := by
  unfold H118 at h
  refine ACall.enter hT (fn := Try.f118) Try.func118 rfl (by decide) (by simp [Try.f118]) rfl rfl rfl rfl (lb rfl) ?_
  refine AWp.seq ?_
  refine AWp.rg hT hA {} (by cbv) (lb rfl) ?_
  refine nT ?_
  refine AWp.seq ?_
  obtain ⟨v15, hvK16, h⟩ := bindS h
  refine AWp.cutN [3] [] 1 (lb rfl) (fun τ => τ = { env := [(3, (.d (.bool v15)))], heap := [(.cells [(.d (.int .i64 x7)), (.d (.int .i64 x8)), (.d (.int .i64 x9)), (.d (.int .i64 x10)), (.d (.int .i64 x11)), (.d (.int .i64 x12))])], n := 21 }) ?_ ?_
  · skip
    rcases tf (A.zle x5 x11) with c13 | c13
    · replace hvK16 := cT c13 hvK16
      rcases tf (A.zeq x6 0) with c14 | c14
      · replace hvK16 := cT c14 hvK16
        refine AWp.rg hT hA { tk := [20] } (by (repeat (cbv; simp only [c13, c14])); first | done | cbv) (lb rfl) ?_
        cases soI hvK16
        exact oNi ⟨rfl, (by first | cbv | ((repeat (cbv; simp only [c13, c14])); first | done | cbv))⟩
      · replace hvK16 := cF c14 hvK16
        refine AWp.rg hT hA { tk := [20] } (by (repeat (cbv; simp only [c13, c14])); first | done | cbv) (lb rfl) ?_
        cases soI hvK16
        exact oNi ⟨rfl, (by first | cbv | ((repeat (cbv; simp only [c13, c14])); first | done | cbv))⟩
    · replace hvK16 := cF c13 hvK16
      refine AWp.rg hT hA { tk := [20] } (by (repeat (cbv; simp only [c13])); first | done | cbv) (lb rfl) ?_
      cases soI hvK16
      exact oNi ⟨rfl, (by first | cbv | ((repeat (cbv; simp only [c13])); first | done | cbv))⟩
  · rintro _ rfl
    refine nT ?_
    refine AWp.ret ?_
    cases soI h
    exact ⟨rfl, rfl, rfl, lb rfl, _, rfl⟩

theorem H88w {A : Ar} (hA : A = Ar.std) {x1 : List D} {x2 : Int} {x3 : Int} {x4 : Int} {x5 : Int} {x6 : Int} {x7 : Int} {v50 : List D} (h : H88 A x1 x2 x3 x4 x5 x6 x7 = some v50) : ACall Try.prog 88 [(.d (.list 6 x1)), (.func 118 [] [(.ptr 0 0)])] [(.cells [(.d (.int .i64 x2)), (.d (.int .i64 x3)), (.d (.int .i64 x4)), (.d (.int .i64 x5)), (.d (.int .i64 x6)), (.d (.int .i64 x7))])] (.own 6 v50) [(.cells [(.d (.int .i64 x2)), (.d (.int .i64 x3)), (.d (.int .i64 x4)), (.d (.int .i64 x5)), (.d (.int .i64 x6)), (.d (.int .i64 x7))])] := by
  unfold H88 at h
  refine ACall.enter hT (fn := Try.f88) Try.func88 rfl (by decide) (by simp [Try.f88]) rfl rfl rfl rfl (lb rfl) ?_
  refine AWp.seq ?_
  refine AWp.rg hT hA {} (by cbv) (lb rfl) ?_
  refine nT ?_
  refine AWp.seq ?_
  refine AWp.rg hT hA {} (by cbv) (lb rfl) ?_
  refine nT ?_
  refine AWp.seq ?_
  refine AWp.seq ?_
  refine AWp.rg hT hA {} (by cbv) (lb rfl) ?_
  refine nT ?_
  refine AWp.block ?_
  obtain ⟨xK49, hxK49, K49, hK49, hkK49⟩ := bindK h
  refine AWp.cutX 0 [5] [] 1 (lb rfl) (fun τ => ∃ v48, K49 v48 = some v50 ∧ τ = { env := [(5, (.own 6 v48))], heap := [(.cells [(.d (.int .i64 x2)), (.d (.int .i64 x3)), (.d (.int .i64 x4)), (.d (.int .i64 x5)), (.d (.int .i64 x6)), (.d (.int .i64 x7))])], n := 23 }) ?_ ?_
  · skip
    refine AWp.iter hxK49 [1, 5, 8, 9, 10] [] 1 (lb rfl) (fun (v27, v28) => { env := [(1, (.func 118 [] [(.ptr 0 0)])), (5, (.own 6 v27)), (8, (.d (.list 6 x1))), (9, (.d (.int .i64 (A.len x1)))), (10, (.d (.int .i64 v28)))], heap := [(.cells [(.d (.int .i64 x2)), (.d (.int .i64 x3)), (.d (.int .i64 x4)), (.d (.int .i64 x5)), (.d (.int .i64 x6)), (.d (.int .i64 x7))])], n := 23 }) ⟨rfl, (by cbv)⟩ ?_
    rintro ⟨v27, v28⟩ eK49 hsK49
    dsimp only [H88L0] at hsK49
    refine AWp.seq ?_
    refine AWp.rg hT hA {} (by cbv) (lb rfl) ?_
    refine nT ?_
    refine AWp.seq ?_
    rcases tf (A.zlt v28 (A.len x1)) with c29 | c29
    · replace hsK49 := cT c29 hsK49
      refine AWp.cdT rfl (by first | rfl | simp only [c29, Bool.not_true, Bool.not_false, cond_true, cond_false]) ?_
      refine AWp.skip ?_
      refine nT ?_
      refine AWp.seq ?_
      refine AWp.block ?_
      refine AWp.seq ?_
      obtain ⟨⟨a30, a31, a32, a33, a34, a35⟩, e36, hsK49⟩ := bindS hsK49
      obtain ⟨f37, f38⟩ := gtI e36
      refine AWp.rg hT hA { tk := [13] } (by (repeat (cbv; simp only [c29, f37, f38])); first | done | cbv) (lb rfl) ?_
      refine nT ?_
      refine AWp.seq ?_
      refine AWp.region ?_
      obtain ⟨r40, e39, hsK49⟩ := bindS hsK49
      refine AOps.cc hT hA {} (by (repeat (cbv; simp only [c29])); first | done | cbv) (lb rfl) (H118w hA e39) rfl (.inl rfl) rfl rfl rfl (lb rfl) rfl rfl ?_
      refine AOps.cd hT hA {} (by (repeat (cbv; simp only [c29])); first | done | cbv) (lb rfl) ?_
      refine nT ?_
      obtain ⟨v46, hvK47, hsK49⟩ := bindS hsK49
      refine AWp.cutN [1, 5, 8, 9, 10] [] 1 (lb rfl) (fun τ => τ = { env := [(1, (.func 118 [] [(.ptr 0 0)])), (5, (.own 6 v46)), (8, (.d (.list 6 x1))), (9, (.d (.int .i64 (A.len x1)))), (10, (.d (.int .i64 v28)))], heap := [(.cells [(.d (.int .i64 x2)), (.d (.int .i64 x3)), (.d (.int .i64 x4)), (.d (.int .i64 x5)), (.d (.int .i64 x6)), (.d (.int .i64 x7))])], n := 23 }) ?_ ?_
      · skip
        rcases tf r40 with c41 | c41
        · replace hvK47 := cT c41 hvK47
          refine AWp.cdT rfl (by first | rfl | simp only [c29, c41, Bool.not_true, Bool.not_false, cond_true, cond_false]) ?_
          obtain ⟨l42, e43, hvK47⟩ := bindS hvK47
          obtain ⟨f44, f45⟩ := apI e43
          refine AWp.rg hT hA { tk := [5, 20] } (by (repeat (cbv; simp only [c29, c41, f44, f45])); first | done | cbv) (lb rfl) ?_
          cases soI hvK47
          exact oNi ⟨rfl, (by first | cbv | ((repeat (cbv; simp only [c29, c41])); first | done | cbv))⟩
        · replace hvK47 := cF c41 hvK47
          refine AWp.cdF rfl (by first | rfl | simp only [c29, c41, Bool.not_true, Bool.not_false, cond_true, cond_false]) ?_
          refine AWp.skip ?_
          cases soI hvK47
          exact oNi ⟨rfl, (by first | cbv | ((repeat (cbv; simp only [c29, c41])); first | done | cbv))⟩
      · rintro _ rfl
        refine nB ?_
        refine nT ?_
        refine AWp.rg hT hA {} (by cbv) (lb rfl) ?_
        exact nT ⟨_, (soI hsK49).symm, rfl, (by cbv)⟩
    · replace hsK49 := cF c29 hsK49
      refine AWp.cdF rfl (by first | rfl | simp only [c29, Bool.not_true, Bool.not_false, cond_true, cond_false]) ?_
      refine AWp.exit ?_
      refine xT ?_
      refine xT ?_
      refine exL hsK49 fun hx => ?_
      subst hx
      exact oxI ⟨rfl, _, hkK49, (by first | cbv | ((repeat (cbv; simp only [c29])); first | done | cbv))⟩
  · rintro _ ⟨v48, hkK49, rfl⟩
    have h := (hK49 _ hkK49)
    refine xB ?_
    refine nT ?_
    refine AWp.seq ?_
    refine AWp.rg hT hA { tk := [5, 22] } (by cbv) (lb rfl) ?_
    refine nT ?_
    refine AWp.ret ?_
    cases soI h
    exact ⟨rfl, rfl, rfl, lb rfl, _, rfl⟩

theorem H82w {A : Ar} (hA : A = Ar.std) {x1 : List D} {v30 : Int} (h : H82 A x1 = some v30) : ACall Try.prog 82 [(.d (.list 6 x1))] [] (.d (.int .i64 v30)) [] := by
  unfold H82 at h
  refine ACall.enter hT (fn := Try.f82) Try.func82 rfl (by decide) (by simp [Try.f82]) rfl rfl rfl rfl (lb rfl) ?_
  refine AWp.seq ?_
  refine AWp.rg hT hA {} (by cbv) (lb rfl) ?_
  refine nT ?_
  refine AWp.seq ?_
  refine AWp.rg hT hA {} (by cbv) (lb rfl) ?_
  refine nT ?_
  refine AWp.seq ?_
  refine AWp.seq ?_
  refine AWp.rg hT hA {} (by cbv) (lb rfl) ?_
  refine nT ?_
  refine AWp.block ?_
  obtain ⟨xK29, hxK29, K29, hK29, hkK29⟩ := bindK h
  refine AWp.cutX 0 [3] [] 0 (lb rfl) (fun τ => ∃ v28, K29 v28 = some v30 ∧ τ = { env := [(3, (.d (.int .i64 v28)))], heap := [], n := 20 }) ?_ ?_
  · skip
    refine AWp.iter hxK29 [0, 3, 6, 7, 8] [] 0 (lb rfl) (fun (v14, v15) => { env := [(0, (.d (.list 6 x1))), (3, (.d (.int .i64 v14))), (6, (.d (.list 6 x1))), (7, (.d (.int .i64 (A.len x1)))), (8, (.d (.int .i64 v15)))], heap := [], n := 20 }) ⟨rfl, (by cbv)⟩ ?_
    rintro ⟨v14, v15⟩ eK29 hsK29
    dsimp only [H82L0] at hsK29
    refine AWp.seq ?_
    refine AWp.rg hT hA {} (by cbv) (lb rfl) ?_
    refine nT ?_
    refine AWp.seq ?_
    rcases tf (A.zlt v15 (A.len x1)) with c16 | c16
    · replace hsK29 := cT c16 hsK29
      refine AWp.cdT rfl (by first | rfl | simp only [c16, Bool.not_true, Bool.not_false, cond_true, cond_false]) ?_
      refine AWp.skip ?_
      refine nT ?_
      refine AWp.seq ?_
      refine AWp.block ?_
      refine AWp.seq ?_
      obtain ⟨⟨a17, a18, a19, a20, a21, a22⟩, e23, hsK29⟩ := bindS hsK29
      obtain ⟨f24, f25⟩ := gtI e23
      refine AWp.rg hT hA { tk := [11], esc := [5] } (by (repeat (cbv; simp only [c16, f24, f25])); first | done | cbv) (lb rfl) ?_
      refine nT ?_
      refine AWp.region ?_
      obtain ⟨r27, e26, hsK29⟩ := bindS hsK29
      refine AOps.cc hT hA { tk := [17] } (by (repeat (cbv; simp only [c16])); first | done | cbv) (lb rfl) (H88w hA e26) rfl (.inl rfl) rfl rfl rfl (lb rfl) rfl rfl ?_
      refine AOps.cd hT hA { tk := [17] } (by (repeat (cbv; simp only [c16])); first | done | cbv) (lb rfl) ?_
      refine nB ?_
      refine nT ?_
      refine AWp.rg hT hA {} (by (repeat (cbv; simp only [c16])); first | done | cbv) (lb rfl) ?_
      exact nT ⟨_, (soI hsK29).symm, rfl, (by first | cbv | ((repeat (cbv; simp only [c16])); first | done | cbv))⟩
    · replace hsK29 := cF c16 hsK29
      refine AWp.cdF rfl (by first | rfl | simp only [c16, Bool.not_true, Bool.not_false, cond_true, cond_false]) ?_
      refine AWp.exit ?_
      refine xT ?_
      refine xT ?_
      refine exL hsK29 fun hx => ?_
      subst hx
      exact oxI ⟨rfl, _, hkK29, (by first | cbv | ((repeat (cbv; simp only [c16])); first | done | cbv))⟩
  · rintro _ ⟨v28, hkK29, rfl⟩
    have h := (hK29 _ hkK29)
    refine xB ?_
    refine nT ?_
    refine AWp.seq ?_
    refine AWp.rg hT hA { tk := [3, 19] } (by cbv) (lb rfl) ?_
    refine nT ?_
    refine AWp.ret ?_
    cases soI h
    exact ⟨rfl, rfl, rfl, lb rfl, _, rfl⟩

theorem H81w {A : Ar} (hA : A = Ar.std) {x1 : List D} {v4 : Int} (h : H81 A x1 = some v4) : ACall Try.prog 81 [(.ptr 0 0)] [(.cells [(.d (.list 6 x1))])] (.d (.int .i64 v4)) [(.cells [(.d (.list 6 x1))])] := by
  unfold H81 at h
  refine ACall.enter hT (fn := Try.f81) Try.func81 rfl (by decide) (by simp [Try.f81]) rfl rfl rfl rfl (lb rfl) ?_
  refine AWp.seq ?_
  refine AWp.rg hT hA {} (by cbv) (lb rfl) ?_
  refine nT ?_
  refine AWp.seq ?_
  refine AWp.region ?_
  obtain ⟨r3, e2, h⟩ := bindS h
  refine AOps.cc hT hA { tk := [3] } (by cbv) (lb rfl) (H82w hA e2) rfl (.inr rfl) rfl rfl rfl (lb rfl) rfl rfl ?_
  refine AOps.cd hT hA { tk := [3] } (by cbv) (lb rfl) ?_
  refine nT ?_
  refine AWp.ret ?_
  cases soI h
  exact ⟨rfl, rfl, rfl, lb rfl, _, rfl⟩

theorem H79w {A : Ar} (hA : A = Ar.std) {x1 : List D} {x2 : List D} {v9 : Int} {v10 : Int} (h : H79 A x1 x2 = some (v9, v10)) : ACall Try.prog 79 [(.d (.list 6 x1)), (.func 80 [] []), (.func 81 [] [(.ptr 0 0)])] [(.cells [(.d (.list 6 x2))])] (.tuple [(.d (.int .i64 v9)), (.d (.int .i64 v10))]) [(.cells [(.d (.list 6 x2))])] := by
  unfold H79 at h
  refine ACall.enter hT (fn := Try.f79) Try.func79 rfl (by decide) (by simp [Try.f79]) rfl rfl rfl rfl (lb rfl) ?_
  refine AWp.seq ?_
  refine AWp.rg hT hA {} (by cbv) (lb rfl) ?_
  refine nT ?_
  refine AWp.seq ?_
  refine AWp.rg hT hA {} (by cbv) (lb rfl) ?_
  refine nT ?_
  refine AWp.seq ?_
  refine AWp.block ?_
  refine AWp.seq ?_
  refine AWp.region ?_
  obtain ⟨r4, e3, h⟩ := bindS h
  refine AOps.cc hT hA {} (by cbv) (lb rfl) (H24w hA e3) rfl (.inr rfl) rfl rfl rfl (lb rfl) rfl rfl ?_
  refine AOps.cd hT hA {} (by cbv) (lb rfl) ?_
  refine nT ?_
  rcases tf r4 with c5 | c5
  · replace h := cT c5 h
    refine AWp.cdF rfl (by first | rfl | simp only [c5, Bool.not_true, Bool.not_false, cond_true, cond_false]) ?_
    refine AWp.seq ?_
    refine AWp.region ?_
    obtain ⟨_, e6, h⟩ := bindS h
    refine AOps.cc hT hA {} (by (repeat (cbv; simp only [c5])); first | done | cbv) (lb rfl) (H80w hA e6) rfl (.inr rfl) rfl rfl rfl (lb rfl) rfl rfl ?_
    refine AOps.cd hT hA {} (by (repeat (cbv; simp only [c5])); first | done | cbv) (lb rfl) ?_
    refine nT ?_
    refine AWp.cdF rfl (by first | rfl | simp only [c5, Bool.not_true, Bool.not_false, cond_true, cond_false]) ?_
    refine AWp.skip ?_
    refine nB ?_
    refine nT ?_
    refine AWp.seq ?_
    refine AWp.region ?_
    obtain ⟨r8, e7, h⟩ := bindS h
    refine AOps.cc hT hA {} (by (repeat (cbv; simp only [c5])); first | done | cbv) (lb rfl) (H81w hA e7) rfl (.inl rfl) rfl rfl rfl (lb rfl) rfl rfl ?_
    refine AOps.cd hT hA {} (by (repeat (cbv; simp only [c5])); first | done | cbv) (lb rfl) ?_
    refine nT ?_
    refine AWp.ret ?_
    cases soI h
    exact ⟨rfl, rfl, rfl, lb rfl, _, rfl⟩
  · replace h := cF c5 h
    refine AWp.cdT rfl (by first | rfl | simp only [c5, Bool.not_true, Bool.not_false, cond_true, cond_false]) ?_
    refine AWp.seq ?_
    refine AWp.rg hT hA {} (by (repeat (cbv; simp only [c5])); first | done | cbv) (lb rfl) ?_
    refine nT ?_
    refine AWp.ret ?_
    refine rB ?_
    refine rT ?_
    cases soI h
    exact ⟨rfl, rfl, rfl, lb rfl, _, rfl⟩

theorem H35w {A : Ar} (hA : A = Ar.std) {x1 : List D} {v5 : Int} {v6 : Int} (h : H35 A x1 = some (v5, v6)) : ACall Try.prog 35 [(.d (.list 6 x1))] [] (.tuple [(.d (.int .i64 v5)), (.d (.int .i64 v6))]) [] := by
  unfold H35 at h
  refine ACall.enter hT (fn := Try.f35) Try.func35 rfl (by decide) (by simp [Try.f35]) rfl rfl rfl rfl (lb rfl) ?_
  refine AWp.seq ?_
  refine AWp.rg hT hA { esc := [1] } (by cbv) (lb rfl) ?_
  refine nT ?_
  refine AWp.seq ?_
  refine AWp.region ?_
  obtain ⟨⟨r3, r4⟩, e2, h⟩ := bindS h
  refine AOps.cc hT hA {} (by cbv) (lb rfl) (H79w hA e2) rfl (.inl rfl) rfl rfl rfl (lb rfl) rfl rfl ?_
  refine AOps.cd hT hA {} (by cbv) (lb rfl) ?_
  refine nT ?_
  refine AWp.ret ?_
  cases soI h
  exact ⟨rfl, rfl, rfl, lb rfl, _, rfl⟩

theorem H84w {A : Ar} (hA : A = Ar.std) {x1 : List D} {v4 : Bool} (h : H84 A x1 = some v4) : ACall Try.prog 84 [(.ptr 0 0)] [(.cells [(.d (.list 6 x1))])] (.d (.bool v4)) [(.cells [(.d (.list 6 x1))])] := by
  unfold H84 at h
  refine ACall.enter hT (fn := Try.f84) Try.func84 rfl (by decide) (by simp [Try.f84]) rfl rfl rfl rfl (lb rfl) ?_
  refine AWp.seq ?_
  refine AWp.rg hT hA {} (by cbv) (lb rfl) ?_
  refine nT ?_
  refine AWp.seq ?_
  refine AWp.region ?_
  obtain ⟨r3, e2, h⟩ := bindS h
  refine AOps.cc hT hA { tk := [4] } (by cbv) (lb rfl) (H82w hA e2) rfl (.inr rfl) rfl rfl rfl (lb rfl) rfl rfl ?_
  refine AOps.cd hT hA { tk := [4] } (by cbv) (lb rfl) ?_
  refine nT ?_
  refine AWp.ret ?_
  cases soI h
  exact ⟨rfl, rfl, rfl, lb rfl, _, rfl⟩

theorem H62aw {A : Ar} (hA : A = Ar.std) {x1 : List D} {x2 : List D} {v9 : Bool} {v10 : Int} (h : H62a A x1 x2 = some (v9, v10)) : ACall Try.prog 62 [(.d (.list 6 x1)), (.func 80 [] []), (.func 84 [] [(.ptr 0 0)])] [(.cells [(.d (.list 6 x2))])] (.tuple [(.d (.bool v9)), (.d (.int .i64 v10))]) [(.cells [(.d (.list 6 x2))])] := by
  unfold H62a at h
  refine ACall.enter hT (fn := Try.f62) Try.func62 rfl (by decide) (by simp [Try.f62]) rfl rfl rfl rfl (lb rfl) ?_
  refine AWp.seq ?_
  refine AWp.rg hT hA {} (by cbv) (lb rfl) ?_
  refine nT ?_
  refine AWp.seq ?_
  refine AWp.rg hT hA {} (by cbv) (lb rfl) ?_
  refine nT ?_
  refine AWp.seq ?_
  refine AWp.block ?_
  refine AWp.seq ?_
  refine AWp.region ?_
  obtain ⟨r4, e3, h⟩ := bindS h
  refine AOps.cc hT hA {} (by cbv) (lb rfl) (H24w hA e3) rfl (.inr rfl) rfl rfl rfl (lb rfl) rfl rfl ?_
  refine AOps.cd hT hA {} (by cbv) (lb rfl) ?_
  refine nT ?_
  rcases tf r4 with c5 | c5
  · replace h := cT c5 h
    refine AWp.cdF rfl (by first | rfl | simp only [c5, Bool.not_true, Bool.not_false, cond_true, cond_false]) ?_
    refine AWp.seq ?_
    refine AWp.region ?_
    obtain ⟨_, e6, h⟩ := bindS h
    refine AOps.cc hT hA {} (by (repeat (cbv; simp only [c5])); first | done | cbv) (lb rfl) (H80w hA e6) rfl (.inr rfl) rfl rfl rfl (lb rfl) rfl rfl ?_
    refine AOps.cd hT hA {} (by (repeat (cbv; simp only [c5])); first | done | cbv) (lb rfl) ?_
    refine nT ?_
    refine AWp.cdF rfl (by first | rfl | simp only [c5, Bool.not_true, Bool.not_false, cond_true, cond_false]) ?_
    refine AWp.skip ?_
    refine nB ?_
    refine nT ?_
    refine AWp.seq ?_
    refine AWp.region ?_
    obtain ⟨r8, e7, h⟩ := bindS h
    refine AOps.cc hT hA {} (by (repeat (cbv; simp only [c5])); first | done | cbv) (lb rfl) (H84w hA e7) rfl (.inl rfl) rfl rfl rfl (lb rfl) rfl rfl ?_
    refine AOps.cd hT hA {} (by (repeat (cbv; simp only [c5])); first | done | cbv) (lb rfl) ?_
    refine nT ?_
    refine AWp.ret ?_
    cases soI h
    exact ⟨rfl, rfl, rfl, lb rfl, _, rfl⟩
  · replace h := cF c5 h
    refine AWp.cdT rfl (by first | rfl | simp only [c5, Bool.not_true, Bool.not_false, cond_true, cond_false]) ?_
    refine AWp.seq ?_
    refine AWp.rg hT hA {} (by (repeat (cbv; simp only [c5])); first | done | cbv) (lb rfl) ?_
    refine nT ?_
    refine AWp.ret ?_
    refine rB ?_
    refine rT ?_
    cases soI h
    exact ⟨rfl, rfl, rfl, lb rfl, _, rfl⟩

theorem H37w {A : Ar} (hA : A = Ar.std) {x1 : List D} {v5 : Bool} {v6 : Int} (h : H37 A x1 = some (v5, v6)) : ACall Try.prog 37 [(.d (.list 6 x1))] [] (.tuple [(.d (.bool v5)), (.d (.int .i64 v6))]) [] := by
  unfold H37 at h
  refine ACall.enter hT (fn := Try.f37) Try.func37 rfl (by decide) (by simp [Try.f37]) rfl rfl rfl rfl (lb rfl) ?_
  refine AWp.seq ?_
  refine AWp.rg hT hA { esc := [1] } (by cbv) (lb rfl) ?_
  refine nT ?_
  refine AWp.seq ?_
  refine AWp.region ?_
  obtain ⟨⟨r3, r4⟩, e2, h⟩ := bindS h
  refine AOps.cc hT hA {} (by cbv) (lb rfl) (H62aw hA e2) rfl (.inl rfl) rfl rfl rfl (lb rfl) rfl rfl ?_
  refine AOps.cd hT hA {} (by cbv) (lb rfl) ?_
  refine nT ?_
  refine AWp.ret ?_
  cases soI h
  exact ⟨rfl, rfl, rfl, lb rfl, _, rfl⟩

theorem H39w {A : Ar} (hA : A = Ar.std) {x1 : List D} {x2 : List D} {v9 : Bool} (h : H39 A x1 x2 = some v9) : ACall Try.prog 39 [(.d (.list 4 x1)), (.d (.list 6 x2))] [] (.d (.bool v9)) [] := by
  unfold H39 at h
  refine ACall.enter hT (fn := Try.f39) Try.func39 rfl (by decide) (by simp [Try.f39]) rfl rfl rfl rfl (lb rfl) ?_
  refine AWp.seq ?_
  refine AWp.rg hT hA {} (by cbv) (lb rfl) ?_
  refine nT ?_
  refine AWp.seq ?_
  refine AWp.region ?_
  obtain ⟨⟨r4, r5⟩, e3, h⟩ := bindS h
  refine AOps.cc hT hA {} (by cbv) (lb rfl) (H21w hA e3) rfl (.inl rfl) rfl rfl rfl (lb rfl) rfl rfl ?_
  refine AOps.cd hT hA {} (by cbv) (lb rfl) ?_
  refine nT ?_
  refine AWp.seq ?_
  obtain ⟨v7, hvK8, h⟩ := bindS h
  refine AWp.cutN [4] [] 0 (lb rfl) (fun τ => τ = { env := [(4, (.d (.bool v7)))], heap := [], n := 18 }) ?_ ?_
  · skip
    rcases tf (A.zeq r5 0) with c6 | c6
    · replace hvK8 := cT c6 hvK8
      refine AWp.rg hT hA { tk := [17] } (by (repeat (cbv; simp only [c6])); first | done | cbv) (lb rfl) ?_
      cases soI hvK8
      exact oNi ⟨rfl, (by first | cbv | ((repeat (cbv; simp only [c6])); first | done | cbv))⟩
    · replace hvK8 := cF c6 hvK8
      refine AWp.rg hT hA { tk := [17] } (by (repeat (cbv; simp only [c6])); first | done | cbv) (lb rfl) ?_
      cases soI hvK8
      exact oNi ⟨rfl, (by first | cbv | ((repeat (cbv; simp only [c6])); first | done | cbv))⟩
  · rintro _ rfl
    refine nT ?_
    refine AWp.ret ?_
    cases soI h
    exact ⟨rfl, rfl, rfl, lb rfl, _, rfl⟩

theorem H86w {A : Ar} (hA : A = Ar.std) {x1 : List D} {x2 : Int} {v5 : Bool} (h : H86 A x1 x2 = some v5) : ACall Try.prog 86 [(.ptr 1 0)] [(.cells [(.d (.list 6 x1))]), (.cells [(.d (.int .i64 x2))])] (.d (.bool v5)) [(.cells [(.d (.list 6 x1))]), (.cells [(.d (.int .i64 x2))])] := by
  unfold H86 at h
  refine ACall.enter hT (fn := Try.f86) Try.func86 rfl (by decide) (by simp [Try.f86]) rfl rfl rfl rfl (lb rfl) ?_
  refine AWp.seq ?_
  refine AWp.rg hT hA {} (by cbv) (lb rfl) ?_
  refine nT ?_
  refine AWp.seq ?_
  refine AWp.region ?_
  obtain ⟨r4, e3, h⟩ := bindS h
  refine AOps.cc hT hA { tk := [3] } (by cbv) (lb rfl) (H77w hA e3) rfl (.inr rfl) rfl rfl rfl (lb rfl) rfl rfl ?_
  refine AOps.cd hT hA { tk := [3] } (by cbv) (lb rfl) ?_
  refine nT ?_
  refine AWp.ret ?_
  cases soI h
  exact ⟨rfl, rfl, rfl, lb rfl, _, rfl⟩

theorem H89w {A : Ar} (hA : A = Ar.std) {x1 : Int} {x2 : Int} {x3 : Int} {x4 : Int} {x5 : Int} {x6 : Int} {x7 : List D} {x8 : Int} {v9 : Bool} (h : H89 A x1 x2 x3 x4 x5 x6 x7 x8 = some v9) : ACall Try.prog 89 [(.d (.agg [(.int .i64 x1), (.int .i64 x2), (.int .i64 x3), (.int .i64 x4), (.int .i64 x5), (.int .i64 x6)])), (.ptr 1 0)] [(.cells [(.d (.list 6 x7))]), (.cells [(.d (.int .i64 x8))])] (.d (.bool v9)) [(.cells [(.d (.list 6 x7))]), (.cells [(.d (.int .i64 x8))])] := by
  unfold H89 at h
  refine ACall.enter hT (fn := Try.f89) Try.func89 rfl (by decide) (by simp [Try.f89]) rfl rfl rfl rfl (lb rfl) ?_
  refine AWp.seq ?_
  refine AWp.rg hT hA {} (by cbv) (lb rfl) ?_
  refine nT ?_
  refine AWp.seq ?_
  refine AWp.rg hT hA { tk := [7] } (by cbv) (lb rfl) ?_
  refine nT ?_
  refine AWp.ret ?_
  cases soI h
  exact ⟨rfl, rfl, rfl, lb rfl, _, rfl⟩

theorem H88aw {A : Ar} (hA : A = Ar.std) {x1 : List D} {x2 : List D} {x3 : Int} {v46 : List D} (h : H88a A x1 x2 x3 = some v46) : ACall Try.prog 88 [(.d (.list 6 x1)), (.func 89 [] [(.ptr 1 0)])] [(.cells [(.d (.list 6 x2))]), (.cells [(.d (.int .i64 x3))])] (.own 6 v46) [(.cells [(.d (.list 6 x2))]), (.cells [(.d (.int .i64 x3))])] := by
  unfold H88a at h
  refine ACall.enter hT (fn := Try.f88) Try.func88 rfl (by decide) (by simp [Try.f88]) rfl rfl rfl rfl (lb rfl) ?_
  refine AWp.seq ?_
  refine AWp.rg hT hA {} (by cbv) (lb rfl) ?_
  refine nT ?_
  refine AWp.seq ?_
  refine AWp.rg hT hA {} (by cbv) (lb rfl) ?_
  refine nT ?_
  refine AWp.seq ?_
  refine AWp.seq ?_
  refine AWp.rg hT hA {} (by cbv) (lb rfl) ?_
  refine nT ?_
  refine AWp.block ?_
  obtain ⟨xK45, hxK45, K45, hK45, hkK45⟩ := bindK h
  refine AWp.cutX 0 [5] [] 2 (lb rfl) (fun τ => ∃ v44, K45 v44 = some v46 ∧ τ = { env := [(5, (.own 6 v44))], heap := [(.cells [(.d (.list 6 x2))]), (.cells [(.d (.int .i64 x3))])], n := 23 }) ?_ ?_
  · skip
    refine AWp.iter hxK45 [1, 5, 8, 9, 10] [] 2 (lb rfl) (fun (v23, v24) => { env := [(1, (.func 89 [] [(.ptr 1 0)])), (5, (.own 6 v23)), (8, (.d (.list 6 x1))), (9, (.d (.int .i64 (A.len x1)))), (10, (.d (.int .i64 v24)))], heap := [(.cells [(.d (.list 6 x2))]), (.cells [(.d (.int .i64 x3))])], n := 23 }) ⟨rfl, (by cbv)⟩ ?_
    rintro ⟨v23, v24⟩ eK45 hsK45
    dsimp only [H88aL0] at hsK45
    refine AWp.seq ?_
    refine AWp.rg hT hA {} (by cbv) (lb rfl) ?_
    refine nT ?_
    refine AWp.seq ?_
    rcases tf (A.zlt v24 (A.len x1)) with c25 | c25
    · replace hsK45 := cT c25 hsK45
      refine AWp.cdT rfl (by first | rfl | simp only [c25, Bool.not_true, Bool.not_false, cond_true, cond_false]) ?_
      refine AWp.skip ?_
      refine nT ?_
      refine AWp.seq ?_
      refine AWp.block ?_
      refine AWp.seq ?_
      obtain ⟨⟨a26, a27, a28, a29, a30, a31⟩, e32, hsK45⟩ := bindS hsK45
      obtain ⟨f33, f34⟩ := gtI e32
      refine AWp.rg hT hA { tk := [13] } (by (repeat (cbv; simp only [c25, f33, f34])); first | done | cbv) (lb rfl) ?_
      refine nT ?_
      refine AWp.seq ?_
      refine AWp.region ?_
      obtain ⟨r36, e35, hsK45⟩ := bindS hsK45
      refine AOps.cc hT hA {} (by (repeat (cbv; simp only [c25])); first | done | cbv) (lb rfl) (H89w hA e35) rfl (.inl rfl) rfl rfl rfl (lb rfl) rfl rfl ?_
      refine AOps.cd hT hA {} (by (repeat (cbv; simp only [c25])); first | done | cbv) (lb rfl) ?_
      refine nT ?_
      obtain ⟨v42, hvK43, hsK45⟩ := bindS hsK45
      refine AWp.cutN [1, 5, 8, 9, 10] [] 2 (lb rfl) (fun τ => τ = { env := [(1, (.func 89 [] [(.ptr 1 0)])), (5, (.own 6 v42)), (8, (.d (.list 6 x1))), (9, (.d (.int .i64 (A.len x1)))), (10, (.d (.int .i64 v24)))], heap := [(.cells [(.d (.list 6 x2))]), (.cells [(.d (.int .i64 x3))])], n := 23 }) ?_ ?_
      · skip
        rcases tf r36 with c37 | c37
        · replace hvK43 := cT c37 hvK43
          refine AWp.cdT rfl (by first | rfl | simp only [c25, c37, Bool.not_true, Bool.not_false, cond_true, cond_false]) ?_
          obtain ⟨l38, e39, hvK43⟩ := bindS hvK43
          obtain ⟨f40, f41⟩ := apI e39
          refine AWp.rg hT hA { tk := [5, 20] } (by (repeat (cbv; simp only [c25, c37, f40, f41])); first | done | cbv) (lb rfl) ?_
          cases soI hvK43
          exact oNi ⟨rfl, (by first | cbv | ((repeat (cbv; simp only [c25, c37])); first | done | cbv))⟩
        · replace hvK43 := cF c37 hvK43
          refine AWp.cdF rfl (by first | rfl | simp only [c25, c37, Bool.not_true, Bool.not_false, cond_true, cond_false]) ?_
          refine AWp.skip ?_
          cases soI hvK43
          exact oNi ⟨rfl, (by first | cbv | ((repeat (cbv; simp only [c25, c37])); first | done | cbv))⟩
      · rintro _ rfl
        refine nB ?_
        refine nT ?_
        refine AWp.rg hT hA {} (by cbv) (lb rfl) ?_
        exact nT ⟨_, (soI hsK45).symm, rfl, (by cbv)⟩
    · replace hsK45 := cF c25 hsK45
      refine AWp.cdF rfl (by first | rfl | simp only [c25, Bool.not_true, Bool.not_false, cond_true, cond_false]) ?_
      refine AWp.exit ?_
      refine xT ?_
      refine xT ?_
      refine exL hsK45 fun hx => ?_
      subst hx
      exact oxI ⟨rfl, _, hkK45, (by first | cbv | ((repeat (cbv; simp only [c25])); first | done | cbv))⟩
  · rintro _ ⟨v44, hkK45, rfl⟩
    have h := (hK45 _ hkK45)
    refine xB ?_
    refine nT ?_
    refine AWp.seq ?_
    refine AWp.rg hT hA { tk := [5, 22] } (by cbv) (lb rfl) ?_
    refine nT ?_
    refine AWp.ret ?_
    cases soI h
    exact ⟨rfl, rfl, rfl, lb rfl, _, rfl⟩

theorem H87w {A : Ar} (hA : A = Ar.std) {x1 : List D} {x2 : Int} {v5 : List D} (h : H87 A x1 x2 = some v5) : ACall Try.prog 87 [(.ptr 0 0), (.ptr 1 0)] [(.cells [(.d (.list 6 x1))]), (.cells [(.d (.int .i64 x2))])] (.own 6 v5) [(.cells [(.d (.list 6 x1))]), (.cells [(.d (.int .i64 x2))])] := by
  unfold H87 at h
  refine ACall.enter hT (fn := Try.f87) Try.func87 rfl (by decide) (by simp [Try.f87]) rfl rfl rfl rfl (lb rfl) ?_
  refine AWp.seq ?_
  refine AWp.rg hT hA {} (by cbv) (lb rfl) ?_
  refine nT ?_
  refine AWp.seq ?_
  refine AWp.region ?_
  obtain ⟨r4, e3, h⟩ := bindS h
  refine AOps.cc hT hA { tk := [5] } (by cbv) (lb rfl) (H88aw hA e3) rfl (.inl rfl) rfl rfl rfl (lb rfl) rfl rfl ?_
  refine AOps.cd hT hA { tk := [5] } (by cbv) (lb rfl) ?_
  refine nT ?_
  refine AWp.ret ?_
  cases soI h
  exact ⟨rfl, rfl, rfl, lb rfl, _, rfl⟩

theorem H85w {A : Ar} (hA : A = Ar.std) {x1 : List D} {x2 : List D} {x3 : Int} {v12 : List D} {v13 : Int} (h : H85 A x1 x2 x3 = some (v12, v13)) : ACall Try.prog 85 [(.d (.list 6 x1)), (.func 86 [] [(.ptr 1 0)]), (.func 87 [] [(.ptr 0 0), (.ptr 1 0)])] [(.cells [(.d (.list 6 x2))]), (.cells [(.d (.int .i64 x3))])] (.tuple [(.d (.list 6 v12)), (.d (.int .i64 v13))]) [(.cells [(.d (.list 6 x2))]), (.cells [(.d (.int .i64 x3))])] := by
  unfold H85 at h
  refine ACall.enter hT (fn := Try.f85) Try.func85 rfl (by decide) (by simp [Try.f85]) rfl rfl rfl rfl (lb rfl) ?_
  refine AWp.seq ?_
  refine AWp.rg hT hA {} (by cbv) (lb rfl) ?_
  refine nT ?_
  refine AWp.seq ?_
  refine AWp.rg hT hA {} (by cbv) (lb rfl) ?_
  refine nT ?_
  refine AWp.seq ?_
  refine AWp.block ?_
  refine AWp.seq ?_
  refine AWp.region ?_
  obtain ⟨r5, e4, h⟩ := bindS h
  refine AOps.cc hT hA {} (by cbv) (lb rfl) (H24w hA e4) rfl (.inr rfl) rfl rfl rfl (lb rfl) rfl rfl ?_
  refine AOps.cd hT hA {} (by cbv) (lb rfl) ?_
  refine nT ?_
  rcases tf r5 with c6 | c6
  · replace h := cT c6 h
    refine AWp.cdF rfl (by first | rfl | simp only [c6, Bool.not_true, Bool.not_false, cond_true, cond_false]) ?_
    refine AWp.seq ?_
    refine AWp.region ?_
    obtain ⟨r8, e7, h⟩ := bindS h
    refine AOps.cc hT hA {} (by (repeat (cbv; simp only [c6])); first | done | cbv) (lb rfl) (H86w hA e7) rfl (.inl rfl) rfl rfl rfl (lb rfl) rfl rfl ?_
    refine AOps.cd hT hA {} (by (repeat (cbv; simp only [c6])); first | done | cbv) (lb rfl) ?_
    refine nT ?_
    rcases tf r8 with c9 | c9
    · replace h := cT c9 h
      refine AWp.cdF rfl (by first | rfl | simp only [c6, c9, Bool.not_true, Bool.not_false, cond_true, cond_false]) ?_
      refine AWp.skip ?_
      refine nB ?_
      refine nT ?_
      refine AWp.seq ?_
      refine AWp.region ?_
      obtain ⟨r11, e10, h⟩ := bindS h
      refine AOps.cc hT hA {} (by (repeat (cbv; simp only [c6, c9])); first | done | cbv) (lb rfl) (H87w hA e10) rfl (.inl rfl) rfl rfl rfl (lb rfl) rfl rfl ?_
      refine AOps.cd hT hA {} (by (repeat (cbv; simp only [c6, c9])); first | done | cbv) (lb rfl) ?_
      refine nT ?_
      refine AWp.ret ?_
      cases soI h
      exact ⟨rfl, rfl, rfl, lb rfl, _, rfl⟩
    · replace h := cF c9 h
      refine AWp.cdT rfl (by first | rfl | simp only [c6, c9, Bool.not_true, Bool.not_false, cond_true, cond_false]) ?_
      refine AWp.seq ?_
      refine AWp.rg hT hA {} (by (repeat (cbv; simp only [c6, c9])); first | done | cbv) (lb rfl) ?_
      refine nT ?_
      refine AWp.ret ?_
      refine rB ?_
      refine rT ?_
      cases soI h
      exact ⟨rfl, rfl, rfl, lb rfl, _, rfl⟩
  · replace h := cF c6 h
    refine AWp.cdT rfl (by first | rfl | simp only [c6, Bool.not_true, Bool.not_false, cond_true, cond_false]) ?_
    refine AWp.seq ?_
    refine AWp.rg hT hA {} (by (repeat (cbv; simp only [c6])); first | done | cbv) (lb rfl) ?_
    refine nT ?_
    refine AWp.ret ?_
    refine rB ?_
    refine rT ?_
    cases soI h
    exact ⟨rfl, rfl, rfl, lb rfl, _, rfl⟩

theorem H40w {A : Ar} (hA : A = Ar.std) {x1 : List D} {x2 : Int} {v6 : List D} {v7 : Int} (h : H40 A x1 x2 = some (v6, v7)) : ACall Try.prog 40 [(.d (.list 6 x1)), (.d (.int .i64 x2))] [] (.tuple [(.d (.list 6 v6)), (.d (.int .i64 v7))]) [] := by
  unfold H40 at h
  refine ACall.enter hT (fn := Try.f40) Try.func40 rfl (by decide) (by simp [Try.f40]) rfl rfl rfl rfl (lb rfl) ?_
  refine AWp.seq ?_
  refine AWp.rg hT hA { esc := [2, 3] } (by cbv) (lb rfl) ?_
  refine nT ?_
  refine AWp.seq ?_
  refine AWp.region ?_
  obtain ⟨⟨r4, r5⟩, e3, h⟩ := bindS h
  refine AOps.cc hT hA {} (by cbv) (lb rfl) (H85w hA e3) rfl (.inl rfl) rfl rfl rfl (lb rfl) rfl rfl ?_
  refine AOps.cd hT hA {} (by cbv) (lb rfl) ?_
  refine nT ?_
  refine AWp.ret ?_
  cases soI h
  exact ⟨rfl, rfl, rfl, lb rfl, _, rfl⟩

theorem H7w {A : Ar} (hA : A = Ar.std) {x1 : List D} {x2 : List D} {v57 : Bool} (h : H7 A x1 x2 = some v57) : ACall Try.prog 7 [(.d (.list 4 x1)), (.d (.list 6 x2))] [] (.d (.bool v57)) [] := by
  unfold H7 at h
  refine ACall.enter hT (fn := Try.f7) Try.func7 rfl (by decide) (by simp [Try.f7]) rfl rfl rfl rfl (lb rfl) ?_
  refine AWp.seq ?_
  refine AWp.rg hT hA {} (by cbv) (lb rfl) ?_
  refine nT ?_
  refine AWp.seq ?_
  refine AWp.seq ?_
  obtain ⟨v11, hvK12, h⟩ := bindS h
  refine AWp.cutN [0, 1, 25] [] 0 (lb rfl) (fun τ => τ = { env := [(0, (.d (.list 4 x1))), (1, (.d (.list 6 x2))), (25, (.d (.bool v11)))], heap := [], n := 79 }) ?_ ?_
  · skip
    refine AWp.region ?_
    obtain ⟨r4, e3, hvK12⟩ := bindS hvK12
    refine AOps.cc hT hA {} (by cbv) (lb rfl) (H17w hA e3) rfl (.inl rfl) rfl rfl rfl (lb rfl) rfl rfl ?_
    rcases tf r4 with c5 | c5
    · replace hvK12 := cT c5 hvK12
      refine AOps.cd hT hA {} (by (repeat (cbv; simp only [c5])); first | done | cbv) (lb rfl) ?_
      cases soI hvK12
      exact oNi ⟨rfl, (by first | cbv | ((repeat (cbv; simp only [c5])); first | done | cbv))⟩
    · replace hvK12 := cF c5 hvK12
      obtain ⟨r7, e6, hvK12⟩ := bindS hvK12
      refine AOps.cc hT hA {} (by (repeat (cbv; simp only [c5])); first | done | cbv) (lb rfl) (H18w hA e6) rfl (.inl rfl) rfl rfl rfl (lb rfl) rfl rfl ?_
      rcases tf r7 with c8 | c8
      · replace hvK12 := cT c8 hvK12
        refine AOps.cd hT hA {} (by (repeat (cbv; simp only [c5, c8])); first | done | cbv) (lb rfl) ?_
        cases soI hvK12
        exact oNi ⟨rfl, (by first | cbv | ((repeat (cbv; simp only [c5, c8])); first | done | cbv))⟩
      · replace hvK12 := cF c8 hvK12
        obtain ⟨r10, e9, hvK12⟩ := bindS hvK12
        refine AOps.cc hT hA {} (by (repeat (cbv; simp only [c5, c8])); first | done | cbv) (lb rfl) (H39w hA e9) rfl (.inl rfl) rfl rfl rfl (lb rfl) rfl rfl ?_
        refine AOps.cd hT hA {} (by (repeat (cbv; simp only [c5, c8])); first | done | cbv) (lb rfl) ?_
        cases soI hvK12
        exact oNi ⟨rfl, (by first | cbv | ((repeat (cbv; simp only [c5, c8])); first | done | cbv))⟩
  · rintro _ rfl
    refine nT ?_
    rcases tf v11 with c13 | c13
    · replace h := cT c13 h
      refine AWp.cdT rfl (by first | rfl | simp only [c13, Bool.not_true, Bool.not_false, cond_true, cond_false]) ?_
      refine AWp.seq ?_
      refine AWp.region ?_
      obtain ⟨r15, e14, h⟩ := bindS h
      refine AOps.cc hT hA { tk := [26] } (by (repeat (cbv; simp only [c13])); first | done | cbv) (lb rfl) (H19w hA e14) rfl (.inl rfl) rfl rfl rfl (lb rfl) rfl rfl ?_
      refine AOps.cd hT hA { tk := [26] } (by (repeat (cbv; simp only [c13])); first | done | cbv) (lb rfl) ?_
      refine nT ?_
      refine AWp.ret ?_
      refine rT ?_
      cases soI h
      exact ⟨rfl, rfl, rfl, lb rfl, _, rfl⟩
    · replace h := cF c13 h
      refine AWp.cdF rfl (by first | rfl | simp only [c13, Bool.not_true, Bool.not_false, cond_true, cond_false]) ?_
      refine AWp.skip ?_
      refine nT ?_
      refine AWp.seq ?_
      refine AWp.region ?_
      obtain ⟨⟨r17, r18⟩, e16, h⟩ := bindS h
      refine AOps.cc hT hA {} (by (repeat (cbv; simp only [c13])); first | done | cbv) (lb rfl) (H26w hA e16) rfl (.inl rfl) rfl rfl rfl (lb rfl) rfl rfl ?_
      refine AOps.cd hT hA {} (by (repeat (cbv; simp only [c13])); first | done | cbv) (lb rfl) ?_
      refine nT ?_
      refine AWp.seq ?_
      refine AWp.rg hT hA {} (by (repeat (cbv; simp only [c13])); first | done | cbv) (lb rfl) ?_
      refine nT ?_
      refine AWp.seq ?_
      refine AWp.rg hT hA {} (by (repeat (cbv; simp only [c13])); first | done | cbv) (lb rfl) ?_
      refine nT ?_
      refine AWp.seq ?_
      refine AWp.seq ?_
      refine AWp.rg hT hA {} (by (repeat (cbv; simp only [c13])); first | done | cbv) (lb rfl) ?_
      refine nT ?_
      refine AWp.block ?_
      obtain ⟨xK49, hxK49, K49, hK49, hkK49⟩ := bindK h
      refine AWp.cutX 0 [1, 5, 6, 7, 8] [] 0 (lb rfl) (fun τ => ∃ v47 v48, K49 (.inl (v47, v48)) = some v57 ∧ τ = { env := [(1, (.d (.list 6 x2))), (5, (.d (.bool r17))), (6, (.d (.int .i64 r18))), (7, (.d (.bool v47))), (8, (.d (.int .i64 v48)))], heap := [], n := 79 }) ?_ ?_
      · skip
        refine AWp.iter hxK49 [0, 1, 5, 6, 7, 8, 9] [] 0 (lb rfl) (fun (v30, v31, v32) => { env := [(0, (.d (.list 4 x1))), (1, (.d (.list 6 x2))), (5, (.d (.bool r17))), (6, (.d (.int .i64 r18))), (7, (.d (.bool v30))), (8, (.d (.int .i64 v31))), (9, (.d (.int .i64 v32)))], heap := [], n := 79 }) ⟨rfl, (by first | cbv | ((repeat (cbv; simp only [c13])); first | done | cbv))⟩ ?_
        rintro ⟨v30, v31, v32⟩ eK49 hsK49
        dsimp only [H7L0] at hsK49
        refine AWp.seq ?_
        refine AWp.seq ?_
        refine AWp.rg hT hA {} (by cbv) (lb rfl) ?_
        refine nT ?_
        rcases tf (A.zlt v32 2) with c33 | c33
        · replace hsK49 := cT c33 hsK49
          refine AWp.cdT rfl (by first | rfl | simp only [c33, Bool.not_true, Bool.not_false, cond_true, cond_false]) ?_
          refine AWp.skip ?_
          refine nT ?_
          refine AWp.seq ?_
          refine AWp.block ?_
          refine AWp.seq ?_
          refine AWp.region ?_
          obtain ⟨⟨r35, r36⟩, e34, hsK49⟩ := bindS hsK49
          refine AOps.cc hT hA {} (by (repeat (cbv; simp only [c33])); first | done | cbv) (lb rfl) (H40w hA e34) rfl (.inl rfl) rfl rfl rfl (lb rfl) rfl rfl ?_
          refine AOps.cd hT hA {} (by (repeat (cbv; simp only [c33])); first | done | cbv) (lb rfl) ?_
          refine nT ?_
          refine AWp.seq ?_
          refine AWp.region ?_
          obtain ⟨⟨r38, r39⟩, e37, hsK49⟩ := bindS hsK49
          refine AOps.cc hT hA {} (by (repeat (cbv; simp only [c33])); first | done | cbv) (lb rfl) (H26w hA e37) rfl (.inl rfl) rfl rfl rfl (lb rfl) rfl rfl ?_
          refine AOps.cd hT hA {} (by (repeat (cbv; simp only [c33])); first | done | cbv) (lb rfl) ?_
          refine nT ?_
          refine AWp.seq ?_
          refine AWp.seq ?_
          obtain ⟨v41, hvK42, hsK49⟩ := bindS hsK49
          refine AWp.cutN [0, 1, 5, 6, 7, 8, 9, 10, 12, 54] [] 0 (lb rfl) (fun τ => τ = { env := [(0, (.d (.list 4 x1))), (1, (.d (.list 6 x2))), (5, (.d (.bool r17))), (6, (.d (.int .i64 r18))), (7, (.d (.bool v30))), (8, (.d (.int .i64 v31))), (9, (.d (.int .i64 v32))), (10, (.d (.list 6 r35))), (12, (.d (.bool r38))), (54, (.d (.bool v41)))], heap := [], n := 79 }) ?_ ?_
          · skip
            rcases tf (A.zeq r36 0) with c40 | c40
            · replace hvK42 := cT c40 hvK42
              refine AWp.rg hT hA {} (by (repeat (cbv; simp only [c33, c40])); first | done | cbv) (lb rfl) ?_
              cases soI hvK42
              exact oNi ⟨rfl, (by first | cbv | ((repeat (cbv; simp only [c33, c40])); first | done | cbv))⟩
            · replace hvK42 := cF c40 hvK42
              refine AWp.rg hT hA {} (by (repeat (cbv; simp only [c33, c40])); first | done | cbv) (lb rfl) ?_
              cases soI hvK42
              exact oNi ⟨rfl, (by first | cbv | ((repeat (cbv; simp only [c33, c40])); first | done | cbv))⟩
          · rintro _ rfl
            refine nT ?_
            rcases tf v41 with c43 | c43
            · replace hsK49 := cT c43 hsK49
              refine AWp.cdT rfl (by first | rfl | simp only [c43, Bool.not_true, Bool.not_false, cond_true, cond_false]) ?_
              refine AWp.seq ?_
              refine AWp.rg hT hA {} (by (repeat (cbv; simp only [c43])); first | done | cbv) (lb rfl) ?_
              refine nT ?_
              refine AWp.ret ?_
              refine rT ?_
              refine rB ?_
              refine rT ?_
              refine rT ?_
              refine exL hsK49 fun hx => ?_
              subst hx
              refine oxR ?_
              replace hkK49 := (eR (hK49 _ hkK49))
              refine rB ?_
              refine rT ?_
              cases soI hkK49
              exact ⟨rfl, rfl, rfl, lb rfl, _, rfl⟩
            · replace hsK49 := cF c43 hsK49
              refine AWp.cdF rfl (by first | rfl | simp only [c43, Bool.not_true, Bool.not_false, cond_true, cond_false]) ?_
              refine AWp.skip ?_
              refine nT ?_
              refine AWp.seq ?_
              obtain ⟨v45, hvK46, hsK49⟩ := bindS hsK49
              refine AWp.cutN [0, 1, 5, 6, 7, 8, 9, 10] [] 0 (lb rfl) (fun τ => τ = { env := [(0, (.d (.list 4 x1))), (1, (.d (.list 6 x2))), (5, (.d (.bool r17))), (6, (.d (.int .i64 r18))), (7, (.d (.bool v45))), (8, (.d (.int .i64 v31))), (9, (.d (.int .i64 v32))), (10, (.d (.list 6 r35)))], heap := [], n := 79 }) ?_ ?_
              · skip
                rcases tf v30 with c44 | c44
                · replace hvK46 := cT c44 hvK46
                  refine AWp.rg hT hA {} (by (repeat (cbv; simp only [c43, c44])); first | done | cbv) (lb rfl) ?_
                  cases soI hvK46
                  exact oNi ⟨rfl, (by first | cbv | ((repeat (cbv; simp only [c43, c44])); first | done | cbv))⟩
                · replace hvK46 := cF c44 hvK46
                  refine AWp.rg hT hA {} (by (repeat (cbv; simp only [c43, c44])); first | done | cbv) (lb rfl) ?_
                  cases soI hvK46
                  exact oNi ⟨rfl, (by first | cbv | ((repeat (cbv; simp only [c43, c44])); first | done | cbv))⟩
              · rintro _ rfl
                refine nT ?_
                refine AWp.rg hT hA {} (by cbv) (lb rfl) ?_
                refine nB ?_
                refine nT ?_
                refine AWp.rg hT hA {} (by cbv) (lb rfl) ?_
                exact nT ⟨_, (soI hsK49).symm, rfl, (by cbv)⟩
        · replace hsK49 := cF c33 hsK49
          refine AWp.cdF rfl (by first | rfl | simp only [c33, Bool.not_true, Bool.not_false, cond_true, cond_false]) ?_
          refine AWp.exit ?_
          refine xT ?_
          refine xT ?_
          refine exL hsK49 fun hx => ?_
          subst hx
          exact oxI ⟨rfl, _, _, hkK49, (by first | cbv | ((repeat (cbv; simp only [c33])); first | done | cbv))⟩
      · rintro _ ⟨v47, v48, hkK49, rfl⟩
        have h := (eL (hK49 _ hkK49))
        refine xB ?_
        refine nT ?_
        refine AWp.seq ?_
        obtain ⟨v55, hvK56, h⟩ := bindS h
        refine AWp.cutN [4] [] 0 (lb rfl) (fun τ => τ = { env := [(4, (.d (.bool v55)))], heap := [], n := 79 }) ?_ ?_
        · skip
          refine AWp.region ?_
          rcases tf (A.zeq r18 0) with c50 | c50
          · replace hvK56 := cT c50 hvK56
            rcases tf (A.zeq v48 (A.len x2)) with c51 | c51
            · replace hvK56 := cT c51 hvK56
              rcases tf (A.beq r17 v47) with c52 | c52
              · replace hvK56 := cT c52 hvK56
                obtain ⟨r54, e53, hvK56⟩ := bindS hvK56
                refine AOps.cc hT hA { tk := [78] } (by (repeat (cbv; simp only [c50, c51, c52])); first | done | cbv) (lb rfl) (H19w hA e53) rfl (.inl rfl) rfl rfl rfl (lb rfl) rfl rfl ?_
                refine AOps.cd hT hA { tk := [78] } (by (repeat (cbv; simp only [c50, c51, c52])); first | done | cbv) (lb rfl) ?_
                cases soI hvK56
                exact oNi ⟨rfl, (by first | cbv | ((repeat (cbv; simp only [c50, c51, c52])); first | done | cbv))⟩
              · replace hvK56 := cF c52 hvK56
                refine AOps.cd hT hA { tk := [78] } (by (repeat (cbv; simp only [c50, c51, c52])); first | done | cbv) (lb rfl) ?_
                cases soI hvK56
                exact oNi ⟨rfl, (by first | cbv | ((repeat (cbv; simp only [c50, c51, c52])); first | done | cbv))⟩
            · replace hvK56 := cF c51 hvK56
              refine AOps.cd hT hA { tk := [78] } (by (repeat (cbv; simp only [c50, c51])); first | done | cbv) (lb rfl) ?_
              cases soI hvK56
              exact oNi ⟨rfl, (by first | cbv | ((repeat (cbv; simp only [c50, c51])); first | done | cbv))⟩
          · replace hvK56 := cF c50 hvK56
            refine AOps.cd hT hA { tk := [78] } (by (repeat (cbv; simp only [c50])); first | done | cbv) (lb rfl) ?_
            cases soI hvK56
            exact oNi ⟨rfl, (by first | cbv | ((repeat (cbv; simp only [c50])); first | done | cbv))⟩
        · rintro _ rfl
          refine nT ?_
          refine AWp.ret ?_
          cases soI h
          exact ⟨rfl, rfl, rfl, lb rfl, _, rfl⟩

theorem H15w {A : Ar} (hA : A = Ar.std) {x1 : List D} {x2 : List D} {v118 : Bool} (h : H15 A x1 x2 = some v118) : ACall Try.prog 15 [(.d (.list 4 x1)), (.d (.list 6 x2))] [] (.d (.bool v118)) [] := by
  unfold H15 at h
  refine ACall.enter hT (fn := Try.f15) Try.func15 rfl (by decide) (by simp [Try.f15]) rfl rfl rfl rfl (lb rfl) ?_
  refine AWp.seq ?_
  refine AWp.rg hT hA {} (by cbv) (lb rfl) ?_
  refine nT ?_
  refine AWp.seq ?_
  refine AWp.seq ?_
  obtain ⟨v8, hvK9, h⟩ := bindS h
  refine AWp.cutN [0, 1, 21] [] 0 (lb rfl) (fun τ => τ = { env := [(0, (.d (.list 4 x1))), (1, (.d (.list 6 x2))), (21, (.d (.bool v8)))], heap := [], n := 173 }) ?_ ?_
  · skip
    refine AWp.region ?_
    obtain ⟨r4, e3, hvK9⟩ := bindS hvK9
    refine AOps.cc hT hA {} (by cbv) (lb rfl) (H17w hA e3) rfl (.inl rfl) rfl rfl rfl (lb rfl) rfl rfl ?_
    rcases tf r4 with c5 | c5
    · replace hvK9 := cT c5 hvK9
      refine AOps.cd hT hA {} (by (repeat (cbv; simp only [c5])); first | done | cbv) (lb rfl) ?_
      cases soI hvK9
      exact oNi ⟨rfl, (by first | cbv | ((repeat (cbv; simp only [c5])); first | done | cbv))⟩
    · replace hvK9 := cF c5 hvK9
      obtain ⟨r7, e6, hvK9⟩ := bindS hvK9
      refine AOps.cc hT hA {} (by (repeat (cbv; simp only [c5])); first | done | cbv) (lb rfl) (H18w hA e6) rfl (.inl rfl) rfl rfl rfl (lb rfl) rfl rfl ?_
      refine AOps.cd hT hA {} (by (repeat (cbv; simp only [c5])); first | done | cbv) (lb rfl) ?_
      cases soI hvK9
      exact oNi ⟨rfl, (by first | cbv | ((repeat (cbv; simp only [c5])); first | done | cbv))⟩
  · rintro _ rfl
    refine nT ?_
    rcases tf v8 with c10 | c10
    · replace h := cT c10 h
      refine AWp.cdT rfl (by first | rfl | simp only [c10, Bool.not_true, Bool.not_false, cond_true, cond_false]) ?_
      refine AWp.seq ?_
      refine AWp.region ?_
      obtain ⟨r12, e11, h⟩ := bindS h
      refine AOps.cc hT hA { tk := [22] } (by (repeat (cbv; simp only [c10])); first | done | cbv) (lb rfl) (H19w hA e11) rfl (.inl rfl) rfl rfl rfl (lb rfl) rfl rfl ?_
      refine AOps.cd hT hA { tk := [22] } (by (repeat (cbv; simp only [c10])); first | done | cbv) (lb rfl) ?_
      refine nT ?_
      refine AWp.ret ?_
      refine rT ?_
      cases soI h
      exact ⟨rfl, rfl, rfl, lb rfl, _, rfl⟩
    · replace h := cF c10 h
      refine AWp.cdF rfl (by first | rfl | simp only [c10, Bool.not_true, Bool.not_false, cond_true, cond_false]) ?_
      refine AWp.skip ?_
      refine nT ?_
      refine AWp.seq ?_
      refine AWp.region ?_
      obtain ⟨⟨r14, r15⟩, e13, h⟩ := bindS h
      refine AOps.cc hT hA {} (by (repeat (cbv; simp only [c10])); first | done | cbv) (lb rfl) (H32w hA e13) rfl (.inl rfl) rfl rfl rfl (lb rfl) rfl rfl ?_
      refine AOps.cd hT hA {} (by (repeat (cbv; simp only [c10])); first | done | cbv) (lb rfl) ?_
      refine nT ?_
      refine AWp.seq ?_
      refine AWp.seq ?_
      refine AWp.rg hT hA {} (by (repeat (cbv; simp only [c10])); first | done | cbv) (lb rfl) ?_
      refine nT ?_
      rcases tf (A.zeq r15 0) with c16 | c16
      · replace h := cT c16 h
        refine AWp.cdF rfl (by first | rfl | simp only [c10, c16, Bool.not_true, Bool.not_false, cond_true, cond_false]) ?_
        refine AWp.skip ?_
        refine nT ?_
        refine AWp.seq ?_
        refine AWp.region ?_
        obtain ⟨⟨r27, r28⟩, e26, h⟩ := bindS h
        refine AOps.cc hT hA {} (by (repeat (cbv; simp only [c10, c16])); first | done | cbv) (lb rfl) (H20w hA e26) rfl (.inl rfl) rfl rfl rfl (lb rfl) rfl rfl ?_
        refine AOps.cd hT hA {} (by (repeat (cbv; simp only [c10, c16])); first | done | cbv) (lb rfl) ?_
        refine nT ?_
        refine AWp.seq ?_
        refine AWp.region ?_
        obtain ⟨⟨r30, r31⟩, e29, h⟩ := bindS h
        refine AOps.cc hT hA {} (by (repeat (cbv; simp only [c10, c16])); first | done | cbv) (lb rfl) (H37w hA e29) rfl (.inl rfl) rfl rfl rfl (lb rfl) rfl rfl ?_
        refine AOps.cd hT hA {} (by (repeat (cbv; simp only [c10, c16])); first | done | cbv) (lb rfl) ?_
        refine nT ?_
        refine AWp.seq ?_
        refine AWp.region ?_
        obtain ⟨⟨r33, r34⟩, e32, h⟩ := bindS h
        refine AOps.cc hT hA {} (by (repeat (cbv; simp only [c10, c16])); first | done | cbv) (lb rfl) (H35w hA e32) rfl (.inl rfl) rfl rfl rfl (lb rfl) rfl rfl ?_
        refine AOps.cd hT hA {} (by (repeat (cbv; simp only [c10, c16])); first | done | cbv) (lb rfl) ?_
        refine nT ?_
        refine AWp.seq ?_
        refine AWp.region ?_
        obtain ⟨⟨r36, r37⟩, e35, h⟩ := bindS h
        refine AOps.cc hT hA {} (by (repeat (cbv; simp only [c10, c16])); first | done | cbv) (lb rfl) (H43w hA e35) rfl (.inl rfl) rfl rfl rfl (lb rfl) rfl rfl ?_
        refine AOps.cd hT hA {} (by (repeat (cbv; simp only [c10, c16])); first | done | cbv) (lb rfl) ?_
        refine nT ?_
        refine AWp.seq ?_
        refine AWp.seq ?_
        obtain ⟨v46, hvK47, h⟩ := bindS h
        refine AWp.cutN [0, 1, 5, 12, 106] [] 0 (lb rfl) (fun τ => τ = { env := [(0, (.d (.list 4 x1))), (1, (.d (.list 6 x2))), (5, (.d (.list 6 r14))), (12, (.d (.list 1 r36))), (106, (.d (.bool v46)))], heap := [], n := 173 }) ?_ ?_
        · skip
          rcases tf (A.zeq r28 0) with c38 | c38
          · replace hvK47 := cT c38 hvK47
            rcases tf (A.zeq r31 0) with c39 | c39
            · replace hvK47 := cT c39 hvK47
              rcases tf (A.zeq r34 0) with c40 | c40
              · replace hvK47 := cT c40 hvK47
                rcases tf (A.zeq r37 0) with c41 | c41
                · replace hvK47 := cT c41 hvK47
                  rcases tf r27 with c42 | c42
                  · replace hvK47 := cT c42 hvK47
                    rcases tf r30 with c43 | c43
                    · replace hvK47 := cT c43 hvK47
                      rcases tf (A.zlt 1 r33) with c44 | c44
                      · replace hvK47 := cT c44 hvK47
                        refine AWp.rg hT hA {} (by (repeat (cbv; simp only [c10, c16, c38, c39, c40, c41, c42, c43, c44])); first | done | cbv) (lb rfl) ?_
                        cases soI hvK47
                        exact oNi ⟨rfl, (by first | cbv | ((repeat (cbv; simp only [c10, c16, c38, c39, c40, c41, c42, c43, c44])); first | done | cbv))⟩
                      · replace hvK47 := cF c44 hvK47
                        rcases tf (A.zeq (A.len r14) (A.len x2)) with c45 | c45
                        · replace hvK47 := cT c45 hvK47
                          refine AWp.rg hT hA {} (by (repeat (cbv; simp only [c10, c16, c38, c39, c40, c41, c42, c43, c44, c45])); first | done | cbv) (lb rfl) ?_
                          cases soI hvK47
                          exact oNi ⟨rfl, (by first | cbv | ((repeat (cbv; simp only [c10, c16, c38, c39, c40, c41, c42, c43, c44, c45])); first | done | cbv))⟩
                        · replace hvK47 := cF c45 hvK47
                          refine AWp.rg hT hA {} (by (repeat (cbv; simp only [c10, c16, c38, c39, c40, c41, c42, c43, c44, c45])); first | done | cbv) (lb rfl) ?_
                          cases soI hvK47
                          exact oNi ⟨rfl, (by first | cbv | ((repeat (cbv; simp only [c10, c16, c38, c39, c40, c41, c42, c43, c44, c45])); first | done | cbv))⟩
                    · replace hvK47 := cF c43 hvK47
                      refine AWp.rg hT hA {} (by (repeat (cbv; simp only [c10, c16, c38, c39, c40, c41, c42, c43])); first | done | cbv) (lb rfl) ?_
                      cases soI hvK47
                      exact oNi ⟨rfl, (by first | cbv | ((repeat (cbv; simp only [c10, c16, c38, c39, c40, c41, c42, c43])); first | done | cbv))⟩
                  · replace hvK47 := cF c42 hvK47
                    refine AWp.rg hT hA {} (by (repeat (cbv; simp only [c10, c16, c38, c39, c40, c41, c42])); first | done | cbv) (lb rfl) ?_
                    cases soI hvK47
                    exact oNi ⟨rfl, (by first | cbv | ((repeat (cbv; simp only [c10, c16, c38, c39, c40, c41, c42])); first | done | cbv))⟩
                · replace hvK47 := cF c41 hvK47
                  refine AWp.rg hT hA {} (by (repeat (cbv; simp only [c10, c16, c38, c39, c40, c41])); first | done | cbv) (lb rfl) ?_
                  cases soI hvK47
                  exact oNi ⟨rfl, (by first | cbv | ((repeat (cbv; simp only [c10, c16, c38, c39, c40, c41])); first | done | cbv))⟩
              · replace hvK47 := cF c40 hvK47
                refine AWp.rg hT hA {} (by (repeat (cbv; simp only [c10, c16, c38, c39, c40])); first | done | cbv) (lb rfl) ?_
                cases soI hvK47
                exact oNi ⟨rfl, (by first | cbv | ((repeat (cbv; simp only [c10, c16, c38, c39, c40])); first | done | cbv))⟩
            · replace hvK47 := cF c39 hvK47
              refine AWp.rg hT hA {} (by (repeat (cbv; simp only [c10, c16, c38, c39])); first | done | cbv) (lb rfl) ?_
              cases soI hvK47
              exact oNi ⟨rfl, (by first | cbv | ((repeat (cbv; simp only [c10, c16, c38, c39])); first | done | cbv))⟩
          · replace hvK47 := cF c38 hvK47
            refine AWp.rg hT hA {} (by (repeat (cbv; simp only [c10, c16, c38])); first | done | cbv) (lb rfl) ?_
            cases soI hvK47
            exact oNi ⟨rfl, (by first | cbv | ((repeat (cbv; simp only [c10, c16, c38])); first | done | cbv))⟩
        · rintro _ rfl
          refine nT ?_
          rcases tf v46 with c48 | c48
          · replace h := cT c48 h
            refine AWp.cdT rfl (by first | rfl | simp only [c48, Bool.not_true, Bool.not_false, cond_true, cond_false]) ?_
            refine AWp.seq ?_
            refine AWp.rg hT hA {} (by (repeat (cbv; simp only [c48])); first | done | cbv) (lb rfl) ?_
            refine nT ?_
            refine AWp.ret ?_
            refine rT ?_
            cases soI h
            exact ⟨rfl, rfl, rfl, lb rfl, _, rfl⟩
          · replace h := cF c48 h
            refine AWp.cdF rfl (by first | rfl | simp only [c48, Bool.not_true, Bool.not_false, cond_true, cond_false]) ?_
            refine AWp.skip ?_
            refine nT ?_
            refine AWp.seq ?_
            refine AWp.seq ?_
            refine AWp.rg hT hA {} (by (repeat (cbv; simp only [c48])); first | done | cbv) (lb rfl) ?_
            refine nT ?_
            refine AWp.block ?_
            obtain ⟨xK108, hxK108, K108, hK108, hkK108⟩ := bindK h
            refine AWp.cutX 0 [0, 5] [] 0 (lb rfl) (fun τ => K108 (.inl ()) = some v118 ∧ τ = { env := [(0, (.d (.list 4 x1))), (5, (.d (.list 6 r14)))], heap := [], n := 173 }) ?_ ?_
            · skip
              refine AWp.iter hxK108 [0, 1, 5, 12, 14] [] 0 (lb rfl) (fun v78 => { env := [(0, (.d (.list 4 x1))), (1, (.d (.list 6 x2))), (5, (.d (.list 6 r14))), (12, (.d (.list 1 r36))), (14, (.d (.int .i64 v78)))], heap := [], n := 173 }) ⟨rfl, (by first | cbv | ((repeat (cbv; simp only [c48])); first | done | cbv))⟩ ?_
              rintro v78 eK108 hsK108
              dsimp only [H15L0] at hsK108
              refine AWp.seq ?_
              refine AWp.seq ?_
              refine AWp.rg hT hA {} (by cbv) (lb rfl) ?_
              refine nT ?_
              rcases tf (A.zlt v78 (A.len r36)) with c79 | c79
              · replace hsK108 := cT c79 hsK108
                refine AWp.cdT rfl (by first | rfl | simp only [c79, Bool.not_true, Bool.not_false, cond_true, cond_false]) ?_
                refine AWp.skip ?_
                refine nT ?_
                refine AWp.seq ?_
                refine AWp.block ?_
                refine AWp.seq ?_
                obtain ⟨v105, hvK106, hsK108⟩ := bindS hsK108
                refine AWp.cutN [0, 1, 5, 12, 14, 157] [] 0 (lb rfl) (fun τ => τ = { env := [(0, (.d (.list 4 x1))), (1, (.d (.list 6 x2))), (5, (.d (.list 6 r14))), (12, (.d (.list 1 r36))), (14, (.d (.int .i64 v78))), (157, (.d (.bool v105)))], heap := [], n := 173 }) ?_ ?_
                · skip
                  obtain ⟨a80, e81, hvK106⟩ := bindS hvK106
                  obtain ⟨f82, f83⟩ := gtI e81
                  rcases tf (A.zeq a80 v78) with c84 | c84
                  · replace hvK106 := cT c84 hvK106
                    obtain ⟨⟨a85, a86, a87, a88, a89, a90⟩, e91, hvK106⟩ := bindS hvK106
                    obtain ⟨f92, f93⟩ := gtI e91
                    obtain ⟨⟨a94, a95, a96, a97, a98, a99⟩, e100, hvK106⟩ := bindS hvK106
                    obtain ⟨f101, f102⟩ := gtI e100
                    rcases tf (A.zeq a85 a94) with c103 | c103
                    · replace hvK106 := cT c103 hvK106
                      rcases tf (A.zeq a86 a95) with c104 | c104
                      · replace hvK106 := cT c104 hvK106
                        refine AWp.rd hT hA {} rfl (by (repeat (cbv; simp only [c79, c84, c103, c104, f82, f83, f92, f93, f101, f102])); first | done | cbv) (by kernel_rfl) (lb rfl) ?_
                        cases soI hvK106
                        exact oNi ⟨rfl, (by first | cbv | ((repeat (cbv; simp only [c79, c84, c103, c104])); first | done | cbv))⟩
                      · replace hvK106 := cF c104 hvK106
                        refine AWp.rd hT hA {} rfl (by (repeat (cbv; simp only [c79, c84, c103, c104, f82, f83, f92, f93, f101, f102])); first | done | cbv) (by kernel_rfl) (lb rfl) ?_
                        cases soI hvK106
                        exact oNi ⟨rfl, (by first | cbv | ((repeat (cbv; simp only [c79, c84, c103, c104])); first | done | cbv))⟩
                    · replace hvK106 := cF c103 hvK106
                      refine AWp.rd hT hA {} rfl (by (repeat (cbv; simp only [c79, c84, c103, f82, f83, f92, f93, f101, f102])); first | done | cbv) (by kernel_rfl) (lb rfl) ?_
                      cases soI hvK106
                      exact oNi ⟨rfl, (by first | cbv | ((repeat (cbv; simp only [c79, c84, c103])); first | done | cbv))⟩
                  · replace hvK106 := cF c84 hvK106
                    refine AWp.rd hT hA {} rfl (by (repeat (cbv; simp only [c79, c84, f82, f83])); first | done | cbv) (by kernel_rfl) (lb rfl) ?_
                    cases soI hvK106
                    exact oNi ⟨rfl, (by first | cbv | ((repeat (cbv; simp only [c79, c84])); first | done | cbv))⟩
                · rintro _ rfl
                  refine nT ?_
                  rcases tf v105 with c107 | c107
                  · replace hsK108 := cT c107 hsK108
                    refine AWp.cdT rfl (by first | rfl | simp only [c107, Bool.not_true, Bool.not_false, cond_true, cond_false]) ?_
                    refine AWp.seq ?_
                    refine AWp.rg hT hA {} (by (repeat (cbv; simp only [c107])); first | done | cbv) (lb rfl) ?_
                    refine nT ?_
                    refine AWp.ret ?_
                    refine rB ?_
                    refine rT ?_
                    refine rT ?_
                    refine exL hsK108 fun hx => ?_
                    subst hx
                    refine oxR ?_
                    replace hkK108 := (eR (hK108 _ hkK108))
                    refine rB ?_
                    refine rT ?_
                    cases soI hkK108
                    exact ⟨rfl, rfl, rfl, lb rfl, _, rfl⟩
                  · replace hsK108 := cF c107 hsK108
                    refine AWp.cdF rfl (by first | rfl | simp only [c107, Bool.not_true, Bool.not_false, cond_true, cond_false]) ?_
                    refine AWp.skip ?_
                    refine nB ?_
                    refine nT ?_
                    refine AWp.rg hT hA {} (by (repeat (cbv; simp only [c107])); first | done | cbv) (lb rfl) ?_
                    exact nT ⟨_, (soI hsK108).symm, rfl, (by first | cbv | ((repeat (cbv; simp only [c107])); first | done | cbv))⟩
              · replace hsK108 := cF c79 hsK108
                refine AWp.cdF rfl (by first | rfl | simp only [c79, Bool.not_true, Bool.not_false, cond_true, cond_false]) ?_
                refine AWp.exit ?_
                refine xT ?_
                refine xT ?_
                refine exL hsK108 fun hx => ?_
                subst hx
                exact oxI ⟨rfl, hkK108, (by first | cbv | ((repeat (cbv; simp only [c79])); first | done | cbv))⟩
            · rintro _ ⟨hkK108, rfl⟩
              have h := (eL (hK108 _ hkK108))
              refine xB ?_
              refine nT ?_
              refine AWp.seq ?_
              refine AWp.region ?_
              obtain ⟨⟨r110, r111⟩, e109, h⟩ := bindS h
              refine AOps.cc hT hA {} (by cbv) (lb rfl) (H30w hA e109) rfl (.inl rfl) rfl rfl rfl (lb rfl) rfl rfl ?_
              refine AOps.cd hT hA {} (by cbv) (lb rfl) ?_
              refine nT ?_
              refine AWp.seq ?_
              obtain ⟨v116, hvK117, h⟩ := bindS h
              refine AWp.cutN [4] [] 0 (lb rfl) (fun τ => τ = { env := [(4, (.d (.bool v116)))], heap := [], n := 173 }) ?_ ?_
              · skip
                refine AWp.region ?_
                rcases tf (A.zeq r111 0) with c112 | c112
                · replace hvK117 := cT c112 hvK117
                  rcases tf (A.zeq r110 1) with c113 | c113
                  · replace hvK117 := cT c113 hvK117
                    obtain ⟨r115, e114, hvK117⟩ := bindS hvK117
                    refine AOps.cc hT hA { tk := [172] } (by (repeat (cbv; simp only [c112, c113])); first | done | cbv) (lb rfl) (H19w hA e114) rfl (.inl rfl) rfl rfl rfl (lb rfl) rfl rfl ?_
                    refine AOps.cd hT hA { tk := [172] } (by (repeat (cbv; simp only [c112, c113])); first | done | cbv) (lb rfl) ?_
                    cases soI hvK117
                    exact oNi ⟨rfl, (by first | cbv | ((repeat (cbv; simp only [c112, c113])); first | done | cbv))⟩
                  · replace hvK117 := cF c113 hvK117
                    refine AOps.cd hT hA { tk := [172] } (by (repeat (cbv; simp only [c112, c113])); first | done | cbv) (lb rfl) ?_
                    cases soI hvK117
                    exact oNi ⟨rfl, (by first | cbv | ((repeat (cbv; simp only [c112, c113])); first | done | cbv))⟩
                · replace hvK117 := cF c112 hvK117
                  refine AOps.cd hT hA { tk := [172] } (by (repeat (cbv; simp only [c112])); first | done | cbv) (lb rfl) ?_
                  cases soI hvK117
                  exact oNi ⟨rfl, (by first | cbv | ((repeat (cbv; simp only [c112])); first | done | cbv))⟩
              · rintro _ rfl
                refine nT ?_
                refine AWp.ret ?_
                cases soI h
                exact ⟨rfl, rfl, rfl, lb rfl, _, rfl⟩
      · replace h := cF c16 h
        refine AWp.cdT rfl (by first | rfl | simp only [c10, c16, Bool.not_true, Bool.not_false, cond_true, cond_false]) ?_
        refine AWp.seq ?_
        obtain ⟨v24, hvK25, h⟩ := bindS h
        refine AWp.cutN [4] [] 0 (lb rfl) (fun τ => τ = { env := [(4, (.d (.bool v24)))], heap := [], n := 173 }) ?_ ?_
        · skip
          refine AWp.region ?_
          rcases tf (A.zeq (A.len r14) 0) with c17 | c17
          · replace hvK25 := cT c17 hvK25
            rcases tf (A.zeq r15 10) with c18 | c18
            · replace hvK25 := cT c18 hvK25
              obtain ⟨r20, e19, hvK25⟩ := bindS hvK25
              refine AOps.cc hT hA { tk := [44] } (by (repeat (cbv; simp only [c10, c16, c17, c18])); first | done | cbv) (lb rfl) (H19w hA e19) rfl (.inl rfl) rfl rfl rfl (lb rfl) rfl rfl ?_
              refine AOps.cd hT hA { tk := [44] } (by (repeat (cbv; simp only [c10, c16, c17, c18])); first | done | cbv) (lb rfl) ?_
              cases soI hvK25
              exact oNi ⟨rfl, (by first | cbv | ((repeat (cbv; simp only [c10, c16, c17, c18])); first | done | cbv))⟩
            · replace hvK25 := cF c18 hvK25
              rcases tf (A.zeq r15 20) with c21 | c21
              · replace hvK25 := cT c21 hvK25
                obtain ⟨r23, e22, hvK25⟩ := bindS hvK25
                refine AOps.cc hT hA { tk := [44] } (by (repeat (cbv; simp only [c10, c16, c17, c18, c21])); first | done | cbv) (lb rfl) (H19w hA e22) rfl (.inl rfl) rfl rfl rfl (lb rfl) rfl rfl ?_
                refine AOps.cd hT hA { tk := [44] } (by (repeat (cbv; simp only [c10, c16, c17, c18, c21])); first | done | cbv) (lb rfl) ?_
                cases soI hvK25
                exact oNi ⟨rfl, (by first | cbv | ((repeat (cbv; simp only [c10, c16, c17, c18, c21])); first | done | cbv))⟩
              · replace hvK25 := cF c21 hvK25
                refine AOps.cd hT hA { tk := [44] } (by (repeat (cbv; simp only [c10, c16, c17, c18, c21])); first | done | cbv) (lb rfl) ?_
                cases soI hvK25
                exact oNi ⟨rfl, (by first | cbv | ((repeat (cbv; simp only [c10, c16, c17, c18, c21])); first | done | cbv))⟩
          · replace hvK25 := cF c17 hvK25
            refine AOps.cd hT hA { tk := [44] } (by (repeat (cbv; simp only [c10, c16, c17])); first | done | cbv) (lb rfl) ?_
            cases soI hvK25
            exact oNi ⟨rfl, (by first | cbv | ((repeat (cbv; simp only [c10, c16, c17])); first | done | cbv))⟩
        · rintro _ rfl
          refine nT ?_
          refine AWp.ret ?_
          refine rT ?_
          cases soI h
          exact ⟨rfl, rfl, rfl, lb rfl, _, rfl⟩
end Go.Am
