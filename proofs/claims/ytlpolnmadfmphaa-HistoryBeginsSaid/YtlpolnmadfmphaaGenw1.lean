/- Own text: Genw1. -/
import Derived.Test.YtlpolnmadfmphaaGenw0
set_option maxRecDepth 100000
set_option maxHeartbeats 2000000
set_option linter.unusedVariables false
set_option linter.unusedSimpArgs false
namespace Go.Am
open Go Go.Proofs
theorem H39w {A : Ar} (hA : A = Ar.std) {x1 : List D} {x2 : List D} {v9 : Bool} (h : H39 A x1 x2 = some v9) : ACall Try.prog 39 [(.d (.list 4 x1)), (.d (.list 6 x2))] [] (.d (.bool v9)) [] := by
  unfold H39 at h
  refine ACall.enter hT (fn := Try.f39) Try.func39 rfl (by decide) (by simp [Try.f39]) rfl rfl rfl rfl (lb rfl) ?_
  refine AWp.seq ?_
  refine AWp.rg hT hA {} (by cbv) (lb rfl) ?_
  refine nT ?_
  refine AWp.seq ?_
  refine AWp.region ?_
  obtain ⟨⟨r4, r5⟩, e3, h⟩ := bindS h
  refine AOps.cc hT hA {} (by cbv) (lb rfl) (H21w hA e3) rfl (.inl rfl) rfl rfl rfl (lb rfl) rfl rfl ?_
  refine AOps.cd hT hA {} (by cbv) (lb rfl) ?_
  refine nT ?_
  refine AWp.seq ?_
  obtain ⟨v7, hvK8, h⟩ := bindS h
  refine AWp.cutN [4] [] 0 (lb rfl) (fun τ => τ = { env := [(4, (.d (.bool v7)))], heap := [], n := 18 }) ?_ ?_
  · skip
    rcases tf (A.zeq r5 0) with c6 | c6
    · replace hvK8 := cT c6 hvK8
      refine AWp.rg hT hA { tk := [17] } (by (repeat (cbv; simp only [c6])); first | done | cbv) (lb rfl) ?_
      cases soI hvK8
      exact oNi ⟨rfl, (by first | (cbv; done) | ((repeat (cbv; simp only [c6])); first | done | cbv))⟩
    · replace hvK8 := cF c6 hvK8
      refine AWp.rg hT hA { tk := [17] } (by (repeat (cbv; simp only [c6])); first | done | cbv) (lb rfl) ?_
      cases soI hvK8
      exact oNi ⟨rfl, (by first | (cbv; done) | ((repeat (cbv; simp only [c6])); first | done | cbv))⟩
  · rintro _ rfl
    refine nT ?_
    refine AWp.ret ?_
    cases soI h
    exact ⟨rfl, rfl, rfl, lb rfl, _, rfl⟩

theorem H96w {A : Ar} (hA : A = Ar.std) {x1 : Int} {v4 : Bool} (h : H96 A x1 = some v4) : ACall Try.prog 96 [(.iptr [(.int .i64 x1)])] [] (.d (.bool v4)) [] := by
  unfold H96 at h
  refine ACall.enter hT (fn := Try.f96) Try.func96 rfl (by decide) (by simp [Try.f96]) rfl rfl rfl rfl (lb rfl) ?_
  refine AWp.seq ?_
  refine AWp.rg hT hA {} (by cbv) (lb rfl) ?_
  refine nT ?_
  refine AWp.seq ?_
  refine AWp.region ?_
  obtain ⟨r3, e2, h⟩ := bindS h
  refine AOps.cc hT hA { tk := [3] } (by cbv) (lb rfl) (H77w hA e2) rfl (.inl rfl) rfl rfl rfl (lb rfl) rfl rfl ?_
  refine AOps.cd hT hA { tk := [3] } (by cbv) (lb rfl) ?_
  refine nT ?_
  refine AWp.ret ?_
  cases soI h
  exact ⟨rfl, rfl, rfl, lb rfl, _, rfl⟩

theorem H98w {A : Ar} (hA : A = Ar.std) {x1 : Int} {x2 : Int} {x3 : Int} {x4 : Int} {x5 : Int} {x6 : Int} {x7 : Int} {v8 : Bool} (h : H98 A x1 x2 x3 x4 x5 x6 x7 = some v8) : ACall Try.prog 98 [(.d (.agg [(.int .i64 x1), (.int .i64 x2), (.int .i64 x3), (.int .i64 x4), (.int .i64 x5), (.int .i64 x6)])), (.iptr [(.int .i64 x7)])] [] (.d (.bool v8)) [] := by
  unfold H98 at h
  refine ACall.enter hT (fn := Try.f98) Try.func98 rfl (by decide) (by simp [Try.f98]) rfl rfl rfl rfl (lb rfl) ?_
  refine AWp.seq ?_
  refine AWp.rg hT hA {} (by cbv) (lb rfl) ?_
  refine nT ?_
  refine AWp.seq ?_
  refine AWp.rg hT hA { tk := [7] } (by cbv) (lb rfl) ?_
  refine nT ?_
  refine AWp.ret ?_
  cases soI h
  exact ⟨rfl, rfl, rfl, lb rfl, _, rfl⟩

theorem H88bw {A : Ar} (hA : A = Ar.std) {x1 : List D} {x2 : Int} {v45 : List D} (h : H88b A x1 x2 = some v45) : ACall Try.prog 88 [(.d (.list 6 x1)), (.func 98 [] [(.iptr [(.int .i64 x2)])])] [] (.own 6 v45) [] := by
  unfold H88b at h
  refine ACall.enter hT (fn := Try.f88) Try.func88 rfl (by decide) (by simp [Try.f88]) rfl rfl rfl rfl (lb rfl) ?_
  refine AWp.seq ?_
  refine AWp.rg hT hA {} (by cbv) (lb rfl) ?_
  refine nT ?_
  refine AWp.seq ?_
  refine AWp.rg hT hA {} (by cbv) (lb rfl) ?_
  refine nT ?_
  refine AWp.seq ?_
  refine AWp.seq ?_
  refine AWp.rg hT hA {} (by cbv) (lb rfl) ?_
  refine nT ?_
  refine AWp.block ?_
  obtain ⟨xK44, hxK44, K44, hK44, hkK44⟩ := bindK h
  refine AWp.cutX 0 [5] [] 0 (lb rfl) (fun τ => ∃ v43, K44 v43 = some v45 ∧ τ = { env := [(5, (.own 6 v43))], heap := [], n := 23 }) ?_ ?_
  · skip
    refine AWp.iter hxK44 [1, 5, 8, 9, 10] [] 0 (lb rfl) (fun (v22, v23) => { env := [(1, (.func 98 [] [(.iptr [(.int .i64 x2)])])), (5, (.own 6 v22)), (8, (.d (.list 6 x1))), (9, (.d (.int .i64 (A.len x1)))), (10, (.d (.int .i64 v23)))], heap := [], n := 23 }) ⟨rfl, (by cbv)⟩ ?_
    rintro ⟨v22, v23⟩ eK44 hsK44
    dsimp only [H88bL0] at hsK44
    refine AWp.seq ?_
    refine AWp.rg hT hA {} (by cbv) (lb rfl) ?_
    refine nT ?_
    refine AWp.seq ?_
    rcases tf (A.zlt v23 (A.len x1)) with c24 | c24
    · replace hsK44 := cT c24 hsK44
      refine AWp.cdT rfl (by first | rfl | simp only [c24, Bool.not_true, Bool.not_false, cond_true, cond_false]) ?_
      refine AWp.skip ?_
      refine nT ?_
      refine AWp.seq ?_
      refine AWp.block ?_
      refine AWp.seq ?_
      obtain ⟨⟨a25, a26, a27, a28, a29, a30⟩, e31, hsK44⟩ := bindS hsK44
      obtain ⟨f32, f33⟩ := gtI e31
      refine AWp.rg hT hA { tk := [13] } (by (repeat (cbv; simp only [c24, f32, f33])); first | done | cbv) (lb rfl) ?_
      refine nT ?_
      refine AWp.seq ?_
      refine AWp.region ?_
      obtain ⟨r35, e34, hsK44⟩ := bindS hsK44
      refine AOps.cc hT hA {} (by (repeat (cbv; simp only [c24])); first | done | cbv) (lb rfl) (H98w hA e34) rfl (.inl rfl) rfl rfl rfl (lb rfl) rfl rfl ?_
      refine AOps.cd hT hA {} (by (repeat (cbv; simp only [c24])); first | done | cbv) (lb rfl) ?_
      refine nT ?_
      obtain ⟨v41, hvK42, hsK44⟩ := bindS hsK44
      refine AWp.cutN [1, 5, 8, 9, 10] [] 0 (lb rfl) (fun τ => τ = { env := [(1, (.func 98 [] [(.iptr [(.int .i64 x2)])])), (5, (.own 6 v41)), (8, (.d (.list 6 x1))), (9, (.d (.int .i64 (A.len x1)))), (10, (.d (.int .i64 v23)))], heap := [], n := 23 }) ?_ ?_
      · skip
        rcases tf r35 with c36 | c36
        · replace hvK42 := cT c36 hvK42
          refine AWp.cdT rfl (by first | rfl | simp only [c24, c36, Bool.not_true, Bool.not_false, cond_true, cond_false]) ?_
          obtain ⟨l37, e38, hvK42⟩ := bindS hvK42
          obtain ⟨f39, f40⟩ := apI e38
          refine AWp.rg hT hA { tk := [5, 20] } (by (repeat (cbv; simp only [c24, c36, f39, f40])); first | done | cbv) (lb rfl) ?_
          cases soI hvK42
          exact oNi ⟨rfl, (by first | (cbv; done) | ((repeat (cbv; simp only [c24, c36])); first | done | cbv))⟩
        · replace hvK42 := cF c36 hvK42
          refine AWp.cdF rfl (by first | rfl | simp only [c24, c36, Bool.not_true, Bool.not_false, cond_true, cond_false]) ?_
          refine AWp.skip ?_
          cases soI hvK42
          exact oNi ⟨rfl, (by first | (cbv; done) | ((repeat (cbv; simp only [c24, c36])); first | done | cbv))⟩
      · rintro _ rfl
        refine nB ?_
        refine nT ?_
        refine AWp.rg hT hA {} (by cbv) (lb rfl) ?_
        exact nT ⟨_, (soI hsK44).symm, rfl, (by cbv)⟩
    · replace hsK44 := cF c24 hsK44
      refine AWp.cdF rfl (by first | rfl | simp only [c24, Bool.not_true, Bool.not_false, cond_true, cond_false]) ?_
      refine AWp.exit ?_
      refine xT ?_
      refine xT ?_
      refine exL hsK44 fun hx => ?_
      subst hx
      exact oxI ⟨rfl, _, hkK44, (by first | (cbv; done) | ((repeat (cbv; simp only [c24])); first | done | cbv))⟩
  · rintro _ ⟨v43, hkK44, rfl⟩
    have h := (hK44 _ hkK44)
    refine xB ?_
    refine nT ?_
    refine AWp.seq ?_
    refine AWp.rg hT hA { tk := [5, 22] } (by cbv) (lb rfl) ?_
    refine nT ?_
    refine AWp.ret ?_
    cases soI h
    exact ⟨rfl, rfl, rfl, lb rfl, _, rfl⟩

theorem H97w {A : Ar} (hA : A = Ar.std) {x1 : List D} {x2 : Int} {v103 : List D} (h : H97 A x1 x2 = some v103) : ACall Try.prog 97 [(.iptr [(.list 6 x1)]), (.iptr [(.int .i64 x2)])] [] (.d (.list 6 v103)) [] := by
  unfold H97 at h
  refine ACall.enter hT (fn := Try.f97) Try.func97 rfl (by decide) (by simp [Try.f97]) rfl rfl rfl rfl (lb rfl) ?_
  refine AWp.seq ?_
  refine AWp.rg hT hA {} (by cbv) (lb rfl) ?_
  refine nT ?_
  refine AWp.seq ?_
  refine AWp.region ?_
  obtain ⟨r4, e3, h⟩ := bindS h
  rcases tf (A.zlt 0 (A.len r4)) with c5 | c5
  · replace h := cT c5 h
    obtain ⟨_, e6, h⟩ := bindS h
    refine AOps.cc hT hA { tk := [8] } (by cbv) (lb rfl) (ACall.thaw (H88bw hA e3) rfl rfl (neL hA c5) (ckI e6) (H := []) rfl (lenL hA)) rfl (.inl rfl) rfl rfl rfl (lb rfl) rfl rfl ?_
    refine AOps.cd hT hA { tk := [8] } (by (repeat (cbv; simp only [c5])); first | done | cbv) (lb rfl) ?_
    refine nT ?_
    refine AWp.seq ?_
    refine AWp.seq ?_
    refine AWp.rg hT hA {} (by (repeat (cbv; simp only [c5])); first | done | cbv) (lb rfl) ?_
    refine nT ?_
    refine AWp.block ?_
    obtain ⟨xK74, hxK74, K74, hK74, hkK74⟩ := bindK h
    refine AWp.cutX 0 [3] [] 1 (lb rfl) (fun τ => ∃ v73, K74 v73 = some v103 ∧ τ = { env := [(3, (.mref 0 6 0 (A.len r4)))], heap := [(.arr 6 v73)], n := 31 }) ?_ ?_
    · skip
      refine AWp.iter hxK74 [1, 3, 10, 11] [] 1 (lb rfl) (fun (v39, v40) => { env := [(1, (.iptr [(.int .i64 x2)])), (3, (.mref 0 6 0 (A.len r4))), (10, (.d (.int .i64 (A.len r4)))), (11, (.d (.int .i64 v39)))], heap := [(.arr 6 v40)], n := 31 }) ⟨rfl, (by first | (cbv; done) | ((repeat (cbv; simp only [c5])); first | done | cbv))⟩ ?_
      rintro ⟨v39, v40⟩ eK74 hsK74
      dsimp only [H97L0] at hsK74
      refine AWp.seq ?_
      refine AWp.rg hT hA {} (by cbv) (lb rfl) ?_
      refine nT ?_
      refine AWp.seq ?_
      rcases tf (A.zlt v39 (A.len r4)) with c41 | c41
      · replace hsK74 := cT c41 hsK74
        refine AWp.cdT rfl (by first | rfl | simp only [c41, Bool.not_true, Bool.not_false, cond_true, cond_false]) ?_
        refine AWp.skip ?_
        refine nT ?_
        refine AWp.seq ?_
        refine AWp.block ?_
        refine AWp.seq ?_
        refine AWp.rg hT hA {} (by (repeat (cbv; simp only [c41])); first | done | cbv) (lb rfl) ?_
        refine nT ?_
        refine AWp.seq ?_
        obtain ⟨_, e42, hsK74⟩ := bindS hsK74
        have f44 := ckI e42
        obtain ⟨_, e43, hsK74⟩ := bindS hsK74
        have f45 := ckI e43
        refine AWp.rg hT hA {} (by (repeat (cbv; simp only [c41, f44, f45])); first | done | cbv) (lb rfl) ?_
        refine nT ?_
        refine AWp.seq ?_
        obtain ⟨⟨a46, a47, a48, a49, a50, a51⟩, e52, hsK74⟩ := bindS hsK74
        have f53 := gcI e52
        refine AWp.rd hT hA {} rfl (by (repeat (cbv; simp only [c41, f53])); first | done | cbv) (by kernel_rfl) (lb rfl) ?_
        refine nT ?_
        obtain ⟨v71, hvK72, hsK74⟩ := bindS hsK74
        refine AWp.cutN [1, 3, 10, 11] [] 1 (lb rfl) (fun τ => τ = { env := [(1, (.iptr [(.int .i64 x2)])), (3, (.mref 0 6 0 (A.len r4))), (10, (.d (.int .i64 (A.len r4)))), (11, (.d (.int .i64 v39)))], heap := [(.arr 6 v71)], n := 31 }) ?_ ?_
        · skip
          rcases tf (A.zlt x2 a51) with c54 | c54
          · replace hvK72 := cT c54 hvK72
            refine AWp.cdT rfl (by first | rfl | simp only [c41, c54, Bool.not_true, Bool.not_false, cond_true, cond_false]) ?_
            obtain ⟨⟨a55, a56, a57, a58, a59, a60⟩, e61, hvK72⟩ := bindS hvK72
            have f62 := gcI e61
            obtain ⟨⟨a63, a64, a65, a66, a67, a68⟩, e69, hvK72⟩ := bindS hvK72
            have f70 := gcI e69
            refine AWp.rg hT hA {} (by (repeat (cbv; simp only [c41, c54, f62, f70])); first | done | cbv) (lb rfl) ?_
            cases soI hvK72
            exact oNi ⟨rfl, (by first | (cbv; done) | ((repeat (cbv; simp only [c41, c54])); first | done | cbv))⟩
          · replace hvK72 := cF c54 hvK72
            refine AWp.cdF rfl (by first | rfl | simp only [c41, c54, Bool.not_true, Bool.not_false, cond_true, cond_false]) ?_
            refine AWp.skip ?_
            cases soI hvK72
            exact oNi ⟨rfl, (by first | (cbv; done) | ((repeat (cbv; simp only [c41, c54])); first | done | cbv))⟩
        · rintro _ rfl
          refine nB ?_
          refine nT ?_
          refine AWp.rg hT hA {} (by cbv) (lb rfl) ?_
          exact nT ⟨_, (soI hsK74).symm, rfl, (by cbv)⟩
      · replace hsK74 := cF c41 hsK74
        refine AWp.cdF rfl (by first | rfl | simp only [c41, Bool.not_true, Bool.not_false, cond_true, cond_false]) ?_
        refine AWp.exit ?_
        refine xT ?_
        refine xT ?_
        refine exL hsK74 fun hx => ?_
        subst hx
        exact oxI ⟨rfl, _, hkK74, (by first | (cbv; done) | ((repeat (cbv; simp only [c41])); first | done | cbv))⟩
    · rintro _ ⟨v73, hkK74, rfl⟩
      have h := (hK74 _ hkK74)
      refine xB ?_
      refine nT ?_
      refine AWp.seq ?_
      refine AWp.rg hT hA { tk := [3, 30] } (by cbv) (lb rfl) ?_
      refine nT ?_
      obtain ⟨l75, e76, h⟩ := bindS h
      obtain ⟨f77, f78⟩ := fzI hA e76
      refine AWp.freeze (s := 2) (i := 0) rfl rfl f77 f78 ?_
      refine AWp.ret ?_
      cases soI h
      exact ⟨rfl, rfl, rfl, lb rfl, _, rfl⟩
  · replace h := cF c5 h
    refine AOps.cc hT hA { tk := [8] } (by cbv) (lb rfl) (H88bw hA e3) rfl (.inl rfl) rfl rfl rfl (lb rfl) rfl rfl ?_
    refine AOps.cd hT hA { tk := [8] } (by (repeat (cbv; simp only [c5])); first | done | cbv) (lb rfl) ?_
    refine nT ?_
    refine AWp.seq ?_
    refine AWp.seq ?_
    refine AWp.rg hT hA {} (by (repeat (cbv; simp only [c5])); first | done | cbv) (lb rfl) ?_
    refine nT ?_
    refine AWp.block ?_
    obtain ⟨xK102, hxK102, K102, hK102, hkK102⟩ := bindK h
    refine AWp.cutX 0 [3] [] 0 (lb rfl) (fun τ => K102 () = some v103 ∧ τ = { env := [(3, (.own 6 r4))], heap := [], n := 31 }) ?_ ?_
    · skip
      refine AWp.iter hxK102 [1, 3, 10, 11] [] 0 (lb rfl) (fun v90 => { env := [(1, (.iptr [(.int .i64 x2)])), (3, (.own 6 r4)), (10, (.d (.int .i64 (A.len r4)))), (11, (.d (.int .i64 v90)))], heap := [], n := 31 }) ⟨rfl, (by first | (cbv; done) | ((repeat (cbv; simp only [c5])); first | done | cbv))⟩ ?_
      rintro v90 eK102 hsK102
      dsimp only [H97L1] at hsK102
      refine AWp.seq ?_
      refine AWp.rg hT hA {} (by cbv) (lb rfl) ?_
      refine nT ?_
      refine AWp.seq ?_
      rcases tf (A.zlt v90 (A.len r4)) with c91 | c91
      · replace hsK102 := cT c91 hsK102
        refine AWp.cdT rfl (by first | rfl | simp only [c91, Bool.not_true, Bool.not_false, cond_true, cond_false]) ?_
        refine AWp.skip ?_
        refine nT ?_
        refine AWp.seq ?_
        refine AWp.block ?_
        refine AWp.seq ?_
        refine AWp.rg hT hA {} (by (repeat (cbv; simp only [c91])); first | done | cbv) (lb rfl) ?_
        refine nT ?_
        refine AWp.seq ?_
        obtain ⟨⟨a92, a93, a94, a95, a96, a97⟩, e98, hsK102⟩ := bindS hsK102
        obtain ⟨f99, f100⟩ := gtI e98
        refine AWp.rg hT hA {} (by (repeat (cbv; simp only [c91, f99, f100])); first | done | cbv) (lb rfl) ?_
        refine nT ?_
        refine AWp.seq ?_
        refine AWp.rd hT hA {} rfl (by (repeat (cbv; simp only [c91])); first | done | cbv) (by kernel_rfl) (lb rfl) ?_
        refine nT ?_
        rcases tf (A.zlt x2 a97) with c101 | c101
        · replace hsK102 := cT c101 hsK102
          refine AWp.cdT rfl (by first | rfl | simp only [c91, c101, Bool.not_true, Bool.not_false, cond_true, cond_false]) ?_
          cases hsK102
        · replace hsK102 := cF c101 hsK102
          refine AWp.cdF rfl (by first | rfl | simp only [c91, c101, Bool.not_true, Bool.not_false, cond_true, cond_false]) ?_
          refine AWp.skip ?_
          refine nB ?_
          refine nT ?_
          refine AWp.rg hT hA {} (by (repeat (cbv; simp only [c91, c101])); first | done | cbv) (lb rfl) ?_
          exact nT ⟨_, (soI hsK102).symm, rfl, (by first | (cbv; done) | ((repeat (cbv; simp only [c91, c101])); first | done | cbv))⟩
      · replace hsK102 := cF c91 hsK102
        refine AWp.cdF rfl (by first | rfl | simp only [c91, Bool.not_true, Bool.not_false, cond_true, cond_false]) ?_
        refine AWp.exit ?_
        refine xT ?_
        refine xT ?_
        refine exL hsK102 fun hx => ?_
        subst hx
        exact oxI ⟨rfl, hkK102, (by first | (cbv; done) | ((repeat (cbv; simp only [c91])); first | done | cbv))⟩
    · rintro _ ⟨hkK102, rfl⟩
      have h := (hK102 _ hkK102)
      refine xB ?_
      refine nT ?_
      refine AWp.seq ?_
      refine AWp.rg hT hA { tk := [3, 30] } (by cbv) (lb rfl) ?_
      refine nT ?_
      refine AWp.softR [2] ?_
      refine AWp.ret ?_
      cases soI h
      exact ⟨rfl, rfl, rfl, lb rfl, _, rfl⟩

theorem H85aw {A : Ar} (hA : A = Ar.std) {x1 : List D} {x2 : Int} {x3 : List D} {x4 : Int} {v13 : List D} {v14 : Int} (h : H85a A x1 x2 x3 x4 = some (v13, v14)) : ACall Try.prog 85 [(.d (.list 6 x1)), (.func 96 [] [(.iptr [(.int .i64 x2)])]), (.func 97 [] [(.iptr [(.list 6 x3)]), (.iptr [(.int .i64 x4)])])] [] (.tuple [(.d (.list 6 v13)), (.d (.int .i64 v14))]) [] := by
  unfold H85a at h
  refine ACall.enter hT (fn := Try.f85) Try.func85 rfl (by decide) (by simp [Try.f85]) rfl rfl rfl rfl (lb rfl) ?_
  refine AWp.seq ?_
  refine AWp.rg hT hA {} (by cbv) (lb rfl) ?_
  refine nT ?_
  refine AWp.seq ?_
  refine AWp.rg hT hA {} (by cbv) (lb rfl) ?_
  refine nT ?_
  refine AWp.seq ?_
  refine AWp.block ?_
  refine AWp.seq ?_
  refine AWp.region ?_
  obtain ⟨r6, e5, h⟩ := bindS h
  refine AOps.cc hT hA {} (by cbv) (lb rfl) (H24w hA e5) rfl (.inl rfl) rfl rfl rfl (lb rfl) rfl rfl ?_
  refine AOps.cd hT hA {} (by cbv) (lb rfl) ?_
  refine nT ?_
  rcases tf r6 with c7 | c7
  · replace h := cT c7 h
    refine AWp.cdF rfl (by first | rfl | simp only [c7, Bool.not_true, Bool.not_false, cond_true, cond_false]) ?_
    refine AWp.seq ?_
    refine AWp.region ?_
    obtain ⟨r9, e8, h⟩ := bindS h
    refine AOps.cc hT hA {} (by (repeat (cbv; simp only [c7])); first | done | cbv) (lb rfl) (H96w hA e8) rfl (.inl rfl) rfl rfl rfl (lb rfl) rfl rfl ?_
    refine AOps.cd hT hA {} (by (repeat (cbv; simp only [c7])); first | done | cbv) (lb rfl) ?_
    refine nT ?_
    rcases tf r9 with c10 | c10
    · replace h := cT c10 h
      refine AWp.cdF rfl (by first | rfl | simp only [c7, c10, Bool.not_true, Bool.not_false, cond_true, cond_false]) ?_
      refine AWp.skip ?_
      refine nB ?_
      refine nT ?_
      refine AWp.seq ?_
      refine AWp.region ?_
      obtain ⟨r12, e11, h⟩ := bindS h
      refine AOps.cc hT hA {} (by (repeat (cbv; simp only [c7, c10])); first | done | cbv) (lb rfl) (H97w hA e11) rfl (.inl rfl) rfl rfl rfl (lb rfl) rfl rfl ?_
      refine AOps.cd hT hA {} (by (repeat (cbv; simp only [c7, c10])); first | done | cbv) (lb rfl) ?_
      refine nT ?_
      refine AWp.ret ?_
      cases soI h
      exact ⟨rfl, rfl, rfl, lb rfl, _, rfl⟩
    · replace h := cF c10 h
      refine AWp.cdT rfl (by first | rfl | simp only [c7, c10, Bool.not_true, Bool.not_false, cond_true, cond_false]) ?_
      refine AWp.seq ?_
      refine AWp.rg hT hA {} (by (repeat (cbv; simp only [c7, c10])); first | done | cbv) (lb rfl) ?_
      refine nT ?_
      refine AWp.ret ?_
      refine rB ?_
      refine rT ?_
      cases soI h
      exact ⟨rfl, rfl, rfl, lb rfl, _, rfl⟩
  · replace h := cF c7 h
    refine AWp.cdT rfl (by first | rfl | simp only [c7, Bool.not_true, Bool.not_false, cond_true, cond_false]) ?_
    refine AWp.seq ?_
    refine AWp.rg hT hA {} (by (repeat (cbv; simp only [c7])); first | done | cbv) (lb rfl) ?_
    refine nT ?_
    refine AWp.ret ?_
    refine rB ?_
    refine rT ?_
    cases soI h
    exact ⟨rfl, rfl, rfl, lb rfl, _, rfl⟩

theorem H45w {A : Ar} (hA : A = Ar.std) {x1 : List D} {x2 : Int} {v6 : List D} {v7 : Int} (h : H45 A x1 x2 = some (v6, v7)) : ACall Try.prog 45 [(.d (.list 6 x1)), (.d (.int .i64 x2))] [] (.tuple [(.d (.list 6 v6)), (.d (.int .i64 v7))]) [] := by
  unfold H45 at h
  refine ACall.enter hT (fn := Try.f45) Try.func45 rfl (by decide) (by simp [Try.f45]) rfl rfl rfl rfl (lb rfl) ?_
  refine AWp.seq ?_
  refine AWp.rg hT hA {} (by cbv) (lb rfl) ?_
  refine nT ?_
  refine AWp.freezeBox 2 [(.list 6 x1)] rfl rfl ?_
  refine AWp.freezeBox 3 [(.int .i64 x2)] rfl rfl ?_
  refine AWp.seq ?_
  refine AWp.region ?_
  obtain ⟨⟨r4, r5⟩, e3, h⟩ := bindS h
  refine AOps.cc hT hA {} (by cbv) (lb rfl) (H85aw hA e3) rfl (.inl rfl) rfl rfl rfl (lb rfl) rfl rfl ?_
  refine AOps.cd hT hA {} (by cbv) (lb rfl) ?_
  refine nT ?_
  refine AWp.ret ?_
  cases soI h
  exact ⟨rfl, rfl, rfl, lb rfl, _, rfl⟩

theorem H11w {A : Ar} (hA : A = Ar.std) {x1 : List D} {x2 : List D} {x3 : Int} {x4 : Int} {v62 : Bool} (h : H11 A x1 x2 x3 x4 = some v62) : ACall Try.prog 11 [(.d (.list 4 x1)), (.d (.list 6 x2)), (.d (.agg [(.int .u8 x3), (.int .u8 x4)]))] [] (.d (.bool v62)) [] := by
  unfold H11 at h
  refine ACall.enter hT (fn := Try.f11) Try.func11 rfl (by decide) (by simp [Try.f11]) rfl rfl rfl rfl (lb rfl) ?_
  refine AWp.seq ?_
  refine AWp.rg hT hA {} (by cbv) (lb rfl) ?_
  refine nT ?_
  refine AWp.seq ?_
  refine AWp.seq ?_
  obtain ⟨v13, hvK14, h⟩ := bindS h
  refine AWp.cutN [0, 1, 5, 31] [] 0 (lb rfl) (fun τ => τ = { env := [(0, (.d (.list 4 x1))), (1, (.d (.list 6 x2))), (5, (.lbox [(.d (.int .u8 x3)), (.d (.int .u8 x4))])), (31, (.d (.bool v13)))], heap := [], n := 123 }) ?_ ?_
  · skip
    refine AWp.region ?_
    obtain ⟨r6, e5, hvK14⟩ := bindS hvK14
    refine AOps.cc hT hA {} (by cbv) (lb rfl) (H17w hA e5) rfl (.inl rfl) rfl rfl rfl (lb rfl) rfl rfl ?_
    rcases tf r6 with c7 | c7
    · replace hvK14 := cT c7 hvK14
      refine AOps.cd hT hA {} (by (repeat (cbv; simp only [c7])); first | done | cbv) (lb rfl) ?_
      cases soI hvK14
      exact oNi ⟨rfl, (by first | (cbv; done) | ((repeat (cbv; simp only [c7])); first | done | cbv))⟩
    · replace hvK14 := cF c7 hvK14
      obtain ⟨r9, e8, hvK14⟩ := bindS hvK14
      refine AOps.cc hT hA {} (by (repeat (cbv; simp only [c7])); first | done | cbv) (lb rfl) (H18w hA e8) rfl (.inl rfl) rfl rfl rfl (lb rfl) rfl rfl ?_
      rcases tf r9 with c10 | c10
      · replace hvK14 := cT c10 hvK14
        refine AOps.cd hT hA {} (by (repeat (cbv; simp only [c7, c10])); first | done | cbv) (lb rfl) ?_
        cases soI hvK14
        exact oNi ⟨rfl, (by first | (cbv; done) | ((repeat (cbv; simp only [c7, c10])); first | done | cbv))⟩
      · replace hvK14 := cF c10 hvK14
        obtain ⟨r12, e11, hvK14⟩ := bindS hvK14
        refine AOps.cc hT hA {} (by (repeat (cbv; simp only [c7, c10])); first | done | cbv) (lb rfl) (H39w hA e11) rfl (.inl rfl) rfl rfl rfl (lb rfl) rfl rfl ?_
        refine AOps.cd hT hA {} (by (repeat (cbv; simp only [c7, c10])); first | done | cbv) (lb rfl) ?_
        cases soI hvK14
        exact oNi ⟨rfl, (by first | (cbv; done) | ((repeat (cbv; simp only [c7, c10])); first | done | cbv))⟩
  · rintro _ rfl
    refine nT ?_
    rcases tf v13 with c15 | c15
    · replace h := cT c15 h
      refine AWp.cdT rfl (by first | rfl | simp only [c15, Bool.not_true, Bool.not_false, cond_true, cond_false]) ?_
      refine AWp.seq ?_
      refine AWp.region ?_
      obtain ⟨r17, e16, h⟩ := bindS h
      refine AOps.cc hT hA { tk := [32] } (by (repeat (cbv; simp only [c15])); first | done | cbv) (lb rfl) (H19w hA e16) rfl (.inl rfl) rfl rfl rfl (lb rfl) rfl rfl ?_
      refine AOps.cd hT hA { tk := [32] } (by (repeat (cbv; simp only [c15])); first | done | cbv) (lb rfl) ?_
      refine nT ?_
      refine AWp.ret ?_
      refine rT ?_
      cases soI h
      exact ⟨rfl, rfl, rfl, lb rfl, _, rfl⟩
    · replace h := cF c15 h
      refine AWp.cdF rfl (by first | rfl | simp only [c15, Bool.not_true, Bool.not_false, cond_true, cond_false]) ?_
      refine AWp.skip ?_
      refine nT ?_
      refine AWp.seq ?_
      obtain ⟨_, e18, h⟩ := bindS h
      have f19 := nkI e18
      obtain ⟨_, e20, h⟩ := bindS h
      have f21 := nkI e20
      refine AWp.rd hT hA {} rfl (by (repeat (cbv; simp only [c15, f19, f21])); first | done | cbv) (by kernel_rfl) (lb rfl) ?_
      refine nT ?_
      refine AWp.seq ?_
      refine AWp.rg hT hA {} (by (repeat (cbv; simp only [c15])); first | done | cbv) (lb rfl) ?_
      refine nT ?_
      refine AWp.seq ?_
      refine AWp.region ?_
      obtain ⟨⟨r23, r24⟩, e22, h⟩ := bindS h
      refine AOps.cc hT hA {} (by (repeat (cbv; simp only [c15])); first | done | cbv) (lb rfl) (H45w hA e22) rfl (.inl rfl) rfl rfl rfl (lb rfl) rfl rfl ?_
      refine AOps.cd hT hA {} (by (repeat (cbv; simp only [c15])); first | done | cbv) (lb rfl) ?_
      refine nT ?_
      refine AWp.seq ?_
      refine AWp.region ?_
      obtain ⟨⟨r26, r27⟩, e25, h⟩ := bindS h
      refine AOps.cc hT hA {} (by (repeat (cbv; simp only [c15])); first | done | cbv) (lb rfl) (H45w hA e25) rfl (.inl rfl) rfl rfl rfl (lb rfl) rfl rfl ?_
      refine AOps.cd hT hA {} (by (repeat (cbv; simp only [c15])); first | done | cbv) (lb rfl) ?_
      refine nT ?_
      refine AWp.seq ?_
      refine AWp.region ?_
      obtain ⟨⟨r29, r30⟩, e28, h⟩ := bindS h
      refine AOps.cc hT hA {} (by (repeat (cbv; simp only [c15])); first | done | cbv) (lb rfl) (H45w hA e28) rfl (.inl rfl) rfl rfl rfl (lb rfl) rfl rfl ?_
      refine AOps.cd hT hA {} (by (repeat (cbv; simp only [c15])); first | done | cbv) (lb rfl) ?_
      refine nT ?_
      refine AWp.seq ?_
      refine AWp.seq ?_
      obtain ⟨v36, hvK37, h⟩ := bindS h
      refine AWp.cutN [0, 1, 11, 80] [] 0 (lb rfl) (fun τ => τ = { env := [(0, (.d (.list 4 x1))), (1, (.d (.list 6 x2))), (11, (.d (.list 6 r23))), (80, (.d (.bool v36)))], heap := [], n := 123 }) ?_ ?_
      · skip
        refine AWp.region ?_
        rcases tf (A.zeq r24 0) with c31 | c31
        · replace hvK37 := cT c31 hvK37
          rcases tf (A.zeq r27 0) with c32 | c32
          · replace hvK37 := cT c32 hvK37
            rcases tf (A.zeq r30 0) with c33 | c33
            · replace hvK37 := cT c33 hvK37
              obtain ⟨r35, e34, hvK37⟩ := bindS hvK37
              refine AOps.cc hT hA {} (by (repeat (cbv; simp only [c15, c31, c32, c33])); first | done | cbv) (lb rfl) (H34w hA e34) rfl (.inl rfl) rfl rfl rfl (lb rfl) rfl rfl ?_
              refine AOps.cd hT hA {} (by (repeat (cbv; simp only [c15, c31, c32, c33])); first | done | cbv) (lb rfl) ?_
              cases soI hvK37
              exact oNi ⟨rfl, (by first | (cbv; done) | ((repeat (cbv; simp only [c15, c31, c32, c33])); first | done | cbv))⟩
            · replace hvK37 := cF c33 hvK37
              refine AOps.cd hT hA {} (by (repeat (cbv; simp only [c15, c31, c32, c33])); first | done | cbv) (lb rfl) ?_
              cases soI hvK37
              exact oNi ⟨rfl, (by first | (cbv; done) | ((repeat (cbv; simp only [c15, c31, c32, c33])); first | done | cbv))⟩
          · replace hvK37 := cF c32 hvK37
            refine AOps.cd hT hA {} (by (repeat (cbv; simp only [c15, c31, c32])); first | done | cbv) (lb rfl) ?_
            cases soI hvK37
            exact oNi ⟨rfl, (by first | (cbv; done) | ((repeat (cbv; simp only [c15, c31, c32])); first | done | cbv))⟩
        · replace hvK37 := cF c31 hvK37
          refine AOps.cd hT hA {} (by (repeat (cbv; simp only [c15, c31])); first | done | cbv) (lb rfl) ?_
          cases soI hvK37
          exact oNi ⟨rfl, (by first | (cbv; done) | ((repeat (cbv; simp only [c15, c31])); first | done | cbv))⟩
      · rintro _ rfl
        refine nT ?_
        rcases tf v36 with c38 | c38
        · replace h := cT c38 h
          refine AWp.cdT rfl (by first | rfl | simp only [c38, Bool.not_true, Bool.not_false, cond_true, cond_false]) ?_
          refine AWp.seq ?_
          refine AWp.rg hT hA {} (by (repeat (cbv; simp only [c38])); first | done | cbv) (lb rfl) ?_
          refine nT ?_
          refine AWp.ret ?_
          refine rT ?_
          cases soI h
          exact ⟨rfl, rfl, rfl, lb rfl, _, rfl⟩
        · replace h := cF c38 h
          refine AWp.cdF rfl (by first | rfl | simp only [c38, Bool.not_true, Bool.not_false, cond_true, cond_false]) ?_
          refine AWp.skip ?_
          refine nT ?_
          refine AWp.seq ?_
          refine AWp.region ?_
          obtain ⟨⟨r40, r41⟩, e39, h⟩ := bindS h
          refine AOps.cc hT hA {} (by (repeat (cbv; simp only [c38])); first | done | cbv) (lb rfl) (H26w hA e39) rfl (.inl rfl) rfl rfl rfl (lb rfl) rfl rfl ?_
          refine AOps.cd hT hA {} (by (repeat (cbv; simp only [c38])); first | done | cbv) (lb rfl) ?_
          refine nT ?_
          refine AWp.seq ?_
          refine AWp.region ?_
          obtain ⟨⟨r43, r44⟩, e42, h⟩ := bindS h
          refine AOps.cc hT hA {} (by (repeat (cbv; simp only [c38])); first | done | cbv) (lb rfl) (H26w hA e42) rfl (.inl rfl) rfl rfl rfl (lb rfl) rfl rfl ?_
          refine AOps.cd hT hA {} (by (repeat (cbv; simp only [c38])); first | done | cbv) (lb rfl) ?_
          refine nT ?_
          refine AWp.seq ?_
          refine AWp.region ?_
          obtain ⟨⟨r46, r47⟩, e45, h⟩ := bindS h
          refine AOps.cc hT hA {} (by (repeat (cbv; simp only [c38])); first | done | cbv) (lb rfl) (H45w hA e45) rfl (.inl rfl) rfl rfl rfl (lb rfl) rfl rfl ?_
          refine AOps.cd hT hA {} (by (repeat (cbv; simp only [c38])); first | done | cbv) (lb rfl) ?_
          refine nT ?_
          refine AWp.seq ?_
          obtain ⟨v60, hvK61, h⟩ := bindS h
          refine AWp.cutN [6] [] 0 (lb rfl) (fun τ => τ = { env := [(6, (.d (.bool v60)))], heap := [], n := 123 }) ?_ ?_
          · skip
            refine AWp.region ?_
            rcases tf (A.zeq r41 0) with c48 | c48
            · replace hvK61 := cT c48 hvK61
              rcases tf (A.zeq r44 0) with c49 | c49
              · replace hvK61 := cT c49 hvK61
                rcases tf (A.zeq r47 0) with c50 | c50
                · replace hvK61 := cT c50 hvK61
                  obtain ⟨r52, e51, hvK61⟩ := bindS hvK61
                  refine AOps.cc hT hA { tk := [122] } (by (repeat (cbv; simp only [c38, c48, c49, c50])); first | done | cbv) (lb rfl) (H34w hA e51) rfl (.inl rfl) rfl rfl rfl (lb rfl) rfl rfl ?_
                  rcases tf r52 with c53 | c53
                  · replace hvK61 := cT c53 hvK61
                    rcases tf r40 with c54 | c54
                    · replace hvK61 := cT c54 hvK61
                      rcases tf r43 with c55 | c55
                      · replace hvK61 := cT c55 hvK61
                        obtain ⟨r57, e56, hvK61⟩ := bindS hvK61
                        refine AOps.cc hT hA { tk := [122] } (by (repeat (cbv; simp only [c38, c48, c49, c50, c53, c54, c55])); first | done | cbv) (lb rfl) (H19w hA e56) rfl (.inl rfl) rfl rfl rfl (lb rfl) rfl rfl ?_
                        refine AOps.cd hT hA { tk := [122] } (by (repeat (cbv; simp only [c38, c48, c49, c50, c53, c54, c55])); first | done | cbv) (lb rfl) ?_
                        cases soI hvK61
                        exact oNi ⟨rfl, (by first | (cbv; done) | ((repeat (cbv; simp only [c38, c48, c49, c50, c53, c54, c55])); first | done | cbv))⟩
                      · replace hvK61 := cF c55 hvK61
                        refine AOps.cd hT hA { tk := [122] } (by (repeat (cbv; simp only [c38, c48, c49, c50, c53, c54, c55])); first | done | cbv) (lb rfl) ?_
                        cases soI hvK61
                        exact oNi ⟨rfl, (by first | (cbv; done) | ((repeat (cbv; simp only [c38, c48, c49, c50, c53, c54, c55])); first | done | cbv))⟩
                    · replace hvK61 := cF c54 hvK61
                      obtain ⟨r59, e58, hvK61⟩ := bindS hvK61
                      refine AOps.cc hT hA { tk := [122] } (by (repeat (cbv; simp only [c38, c48, c49, c50, c53, c54])); first | done | cbv) (lb rfl) (H19w hA e58) rfl (.inl rfl) rfl rfl rfl (lb rfl) rfl rfl ?_
                      refine AOps.cd hT hA { tk := [122] } (by (repeat (cbv; simp only [c38, c48, c49, c50, c53, c54])); first | done | cbv) (lb rfl) ?_
                      cases soI hvK61
                      exact oNi ⟨rfl, (by first | (cbv; done) | ((repeat (cbv; simp only [c38, c48, c49, c50, c53, c54])); first | done | cbv))⟩
                  · replace hvK61 := cF c53 hvK61
                    refine AOps.cd hT hA { tk := [122] } (by (repeat (cbv; simp only [c38, c48, c49, c50, c53])); first | done | cbv) (lb rfl) ?_
                    cases soI hvK61
                    exact oNi ⟨rfl, (by first | (cbv; done) | ((repeat (cbv; simp only [c38, c48, c49, c50, c53])); first | done | cbv))⟩
                · replace hvK61 := cF c50 hvK61
                  refine AOps.cd hT hA { tk := [122] } (by (repeat (cbv; simp only [c38, c48, c49, c50])); first | done | cbv) (lb rfl) ?_
                  cases soI hvK61
                  exact oNi ⟨rfl, (by first | (cbv; done) | ((repeat (cbv; simp only [c38, c48, c49, c50])); first | done | cbv))⟩
              · replace hvK61 := cF c49 hvK61
                refine AOps.cd hT hA { tk := [122] } (by (repeat (cbv; simp only [c38, c48, c49])); first | done | cbv) (lb rfl) ?_
                cases soI hvK61
                exact oNi ⟨rfl, (by first | (cbv; done) | ((repeat (cbv; simp only [c38, c48, c49])); first | done | cbv))⟩
            · replace hvK61 := cF c48 hvK61
              refine AOps.cd hT hA { tk := [122] } (by (repeat (cbv; simp only [c38, c48])); first | done | cbv) (lb rfl) ?_
              cases soI hvK61
              exact oNi ⟨rfl, (by first | (cbv; done) | ((repeat (cbv; simp only [c38, c48])); first | done | cbv))⟩
          · rintro _ rfl
            refine nT ?_
            refine AWp.ret ?_
            cases soI h
            exact ⟨rfl, rfl, rfl, lb rfl, _, rfl⟩
end Go.Am
