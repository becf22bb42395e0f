/- Own text: Genw1. -/
import Derived.Test.YtlpolnmadfmphaaGenw0
set_option maxRecDepth 100000
set_option maxHeartbeats 2000000
set_option linter.unusedVariables false
set_option linter.unusedSimpArgs false
namespace Go.Am
open Go Go.Proofs
theorem H95aw {A : Ar} (hA : A = Ar.std) {x1 : List D} {x2 : List D} {x3 : List D} {v137 : Bool} (h : H95a A x1 x2 x3 = some v137) : ACall Try.prog 95 [(.d (.list 4 x1)), (.d (.list 6 x2)), (.d (.list 1 x3))] [] (.d (.bool v137)) [] := by
  unfold H95a at h
  refine ACall.enter hT (fn := Try.f95) Try.func95 rfl (by decide) (by simp [Try.f95]) rfl rfl rfl rfl (lb rfl) ?_
  refine AWp.seq ?_
  refine AWp.rg hT hA {} (by cbv) (lb rfl) ?_
  refine nT ?_
  refine AWp.seq ?_
  obtain ⟨_, e7, h⟩ := bindS h
  have f4 := ckI e7
  obtain ⟨_, e8, h⟩ := bindS h
  have f5 := ckI e8
  obtain ⟨_, e9, h⟩ := bindS h
  have f6 := ckI e9
  refine AWp.rg hT hA {} (by (repeat (cbv; simp only [f4, f5, f6])); first | done | cbv) (lb rfl) ?_
  refine nT ?_
  refine AWp.seq ?_
  refine AWp.seq ?_
  refine AWp.rg hT hA {} (by cbv) (lb rfl) ?_
  refine nT ?_
  refine AWp.block ?_
  obtain ⟨xK136, hxK136, K136, hK136, hkK136⟩ := bindK h
  refine AWp.cutX 0 [] [] 1 (lb rfl) (fun τ => ∃ v134, K136 (.inl v134) = some v137 ∧ τ = { env := [], heap := [(.arr 1 v134)], n := 70 }) ?_ ?_
  · skip
    refine AWp.iter hxK136 [0, 1, 2, 7, 8] [] 1 (lb rfl) (fun (v71, v72) => { env := [(0, (.d (.list 4 x1))), (1, (.d (.list 6 x2))), (2, (.d (.list 1 x3))), (7, (.mref 0 1 0 (A.len x1))), (8, (.d (.int .i64 v71)))], heap := [(.arr 1 v72)], n := 70 }) ⟨rfl, (by cbv)⟩ ?_
    rintro ⟨v71, v72⟩ eK136 hsK136
    dsimp only [H95aL0] at hsK136
    refine AWp.seq ?_
    refine AWp.seq ?_
    refine AWp.rg hT hA {} (by cbv) (lb rfl) ?_
    refine nT ?_
    rcases tf (A.zlt v71 (A.len x3)) with c73 | c73
    · replace hsK136 := cT c73 hsK136
      refine AWp.cdT rfl (by first | rfl | simp only [c73, Bool.not_true, Bool.not_false, cond_true, cond_false]) ?_
      refine AWp.skip ?_
      refine nT ?_
      refine AWp.seq ?_
      refine AWp.block ?_
      refine AWp.seq ?_
      obtain ⟨a74, e75, hsK136⟩ := bindS hsK136
      obtain ⟨f76, f77⟩ := gtI e75
      obtain ⟨⟨a78, a79, a80, a81, a82, a83⟩, e84, hsK136⟩ := bindS hsK136
      obtain ⟨f85, f86⟩ := gtI e84
      refine AWp.rg hT hA { tk := [26] } (by (repeat (cbv; simp only [c73, f76, f77, f85, f86])); first | done | cbv) (lb rfl) ?_
      refine nT ?_
      refine AWp.seq ?_
      obtain ⟨⟨a87, a88, a89, a90⟩, e91, hsK136⟩ := bindS hsK136
      obtain ⟨f92, f93⟩ := gtI e91
      refine AWp.rg hT hA { tk := [31] } (by (repeat (cbv; simp only [c73, f92, f93])); first | done | cbv) (lb rfl) ?_
      refine nT ?_
      refine AWp.seq ?_
      refine AWp.seq ?_
      obtain ⟨v110, hvK111, hsK136⟩ := bindS hsK136
      refine AWp.cutN [0, 1, 2, 7, 8, 9, 10, 52] [] 1 (lb rfl) (fun τ => τ = { env := [(0, (.d (.list 4 x1))), (1, (.d (.list 6 x2))), (2, (.d (.list 1 x3))), (7, (.mref 0 1 0 (A.len x1))), (8, (.d (.int .i64 v71))), (9, (.lbox [(.d (.int .i64 a78)), (.d (.int .i64 a79)), (.d (.int .i64 a80)), (.d (.int .i64 a81)), (.d (.int .i64 a82)), (.d (.int .i64 a83))])), (10, (.lbox [(.d (.int .i64 a87)), (.d (.int .i64 a88)), (.d (.list 1 a89)), (.d (.list 1 a90))])), (52, (.d (.bool v110)))], heap := [(.arr 1 v72)], n := 70 }) ?_ ?_
      · skip
        rcases tf (A.zeq a83 0) with c94 | c94
        · replace hvK111 := cT c94 hvK111
          refine AWp.rd hT hA {} rfl (by (repeat (cbv; simp only [c73, c94])); first | done | cbv) (by kernel_rfl) (lb rfl) ?_
          cases soI hvK111
          exact oNi ⟨rfl, (by first | (cbv; done) | ((repeat (cbv; simp only [c73, c94])); first | done | cbv))⟩
        · replace hvK111 := cF c94 hvK111
          obtain ⟨_, e95, hvK111⟩ := bindS hvK111
          have f97 := ckI e95
          obtain ⟨_, e96, hvK111⟩ := bindS hvK111
          have f98 := ckI e96
          obtain ⟨a99, e100, hvK111⟩ := bindS hvK111
          have f101 := gcI e100
          obtain ⟨a102, e103, hvK111⟩ := bindS hvK111
          obtain ⟨f104, f105⟩ := gtI e103
          obtain ⟨a106, e107, hvK111⟩ := bindS hvK111
          obtain ⟨f108, f109⟩ := gtI e107
          refine AWp.rd hT hA {} rfl (by (repeat (cbv; simp only [c73, c94, f97, f98, f101, f104, f105, f108, f109])); first | done | cbv) (by kernel_rfl) (lb rfl) ?_
          cases soI hvK111
          exact oNi ⟨rfl, (by first | (cbv; done) | ((repeat (cbv; simp only [c73, c94])); first | done | cbv))⟩
      · rintro _ rfl
        refine nT ?_
        rcases tf v110 with c112 | c112
        · replace hsK136 := cT c112 hsK136
          refine AWp.cdT rfl (by first | rfl | simp only [c112, Bool.not_true, Bool.not_false, cond_true, cond_false]) ?_
          refine AWp.seq ?_
          refine AWp.rg hT hA {} (by (repeat (cbv; simp only [c112])); first | done | cbv) (lb rfl) ?_
          refine nT ?_
          refine AWp.ret ?_
          refine rT ?_
          refine rB ?_
          refine rT ?_
          refine rT ?_
          refine exL hsK136 fun hx => ?_
          subst hx
          refine oxR ?_
          replace hkK136 := (eR (hK136 _ hkK136))
          refine rB ?_
          refine rT ?_
          cases soI hkK136
          exact ⟨rfl, rfl, rfl, lb rfl, _, rfl⟩
        · replace hsK136 := cF c112 hsK136
          refine AWp.cdF rfl (by first | rfl | simp only [c112, Bool.not_true, Bool.not_false, cond_true, cond_false]) ?_
          refine AWp.skip ?_
          refine nT ?_
          obtain ⟨_, e113, hsK136⟩ := bindS hsK136
          have f115 := ckI e113
          obtain ⟨_, e114, hsK136⟩ := bindS hsK136
          have f116 := ckI e114
          obtain ⟨a117, e118, hsK136⟩ := bindS hsK136
          have f119 := gcI e118
          obtain ⟨a120, e121, hsK136⟩ := bindS hsK136
          obtain ⟨f122, f123⟩ := gtI e121
          obtain ⟨a124, e125, hsK136⟩ := bindS hsK136
          obtain ⟨f126, f127⟩ := gtI e125
          obtain ⟨_, e128, hsK136⟩ := bindS hsK136
          have f130 := ckI e128
          obtain ⟨_, e129, hsK136⟩ := bindS hsK136
          have f131 := ckI e129
          obtain ⟨d132, e133, hsK136⟩ := bindS hsK136
          refine AWp.rd hT hA { tk := [68] } rfl (by (repeat (cbv; simp only [c112, f115, f116, f119, f122, f123, f126, f127, f130, f131, e133])); first | done | cbv) (by kernel_rfl) (lb rfl) ?_
          refine nB ?_
          refine nT ?_
          refine AWp.rg hT hA {} (by (repeat (cbv; simp only [c112])); first | done | cbv) (lb rfl) ?_
          exact nT ⟨_, (soI hsK136).symm, rfl, (by first | (cbv; done) | ((repeat (cbv; simp only [c112])); first | done | cbv))⟩
    · replace hsK136 := cF c73 hsK136
      refine AWp.cdF rfl (by first | rfl | simp only [c73, Bool.not_true, Bool.not_false, cond_true, cond_false]) ?_
      refine AWp.exit ?_
      refine xT ?_
      refine xT ?_
      refine exL hsK136 fun hx => ?_
      subst hx
      exact oxI ⟨rfl, _, hkK136, (by first | (cbv; done) | ((repeat (cbv; simp only [c73])); first | done | cbv))⟩
  · rintro _ ⟨v134, hkK136, rfl⟩
    have h := (eL (hK136 _ hkK136))
    refine xB ?_
    refine nT ?_
    refine AWp.seq ?_
    refine AWp.rg hT hA {} (by cbv) (lb rfl) ?_
    refine nT ?_
    refine AWp.ret ?_
    cases soI h
    exact ⟨rfl, rfl, rfl, lb rfl, _, rfl⟩

theorem H94aw {A : Ar} (hA : A = Ar.std) {x1 : List D} {x2 : List D} {v71 : Bool} (h : H94a A x1 x2 = some v71) : ACall Try.prog 94 [(.d (.list 6 x1)), (.d (.list 1 x2))] [] (.d (.bool v71)) [] := by
  unfold H94a at h
  refine ACall.enter hT (fn := Try.f94) Try.func94 rfl (by decide) (by simp [Try.f94]) rfl rfl rfl rfl (lb rfl) ?_
  refine AWp.seq ?_
  refine AWp.rg hT hA {} (by cbv) (lb rfl) ?_
  refine nT ?_
  refine AWp.seq ?_
  refine AWp.seq ?_
  refine AWp.rg hT hA {} (by cbv) (lb rfl) ?_
  refine nT ?_
  refine AWp.block ?_
  obtain ⟨xK70, hxK70, K70, hK70, hkK70⟩ := bindK h
  refine AWp.cutX 0 [] [] 0 (lb rfl) (fun τ => K70 (.inl ()) = some v71 ∧ τ = { env := [], heap := [], n := 33 }) ?_ ?_
  · skip
    refine AWp.iter hxK70 [0, 1, 5] [] 0 (lb rfl) (fun v6 => { env := [(0, (.d (.list 6 x1))), (1, (.d (.list 1 x2))), (5, (.d (.int .i64 v6)))], heap := [], n := 33 }) ⟨rfl, (by cbv)⟩ ?_
    rintro v6 eK70 hsK70
    dsimp only [H94aL1] at hsK70
    refine AWp.seq ?_
    refine AWp.seq ?_
    refine AWp.rg hT hA {} (by cbv) (lb rfl) ?_
    refine nT ?_
    rcases tf (A.zlt v6 (A.len x2)) with c7 | c7
    · replace hsK70 := cT c7 hsK70
      refine AWp.cdT rfl (by first | rfl | simp only [c7, Bool.not_true, Bool.not_false, cond_true, cond_false]) ?_
      refine AWp.skip ?_
      refine nT ?_
      refine AWp.seq ?_
      refine AWp.block ?_
      refine AWp.seq ?_
      refine AWp.rg hT hA {} (by (repeat (cbv; simp only [c7])); first | done | cbv) (lb rfl) ?_
      refine nT ?_
      refine AWp.block ?_
      obtain ⟨xK69, hxK69, K69, hK69, hkK69⟩ := bindK hsK70
      refine AWp.cutX 2 [0, 1, 5] [] 0 (lb rfl) (fun τ => K69 (.inl ()) = some eK70 ∧ τ = { env := [(0, (.d (.list 6 x1))), (1, (.d (.list 1 x2))), (5, (.d (.int .i64 v6)))], heap := [], n := 33 }) ?_ ?_
      · skip
        refine AWp.iter hxK69 [0, 1, 5, 6] [] 0 (lb rfl) (fun v38 => { env := [(0, (.d (.list 6 x1))), (1, (.d (.list 1 x2))), (5, (.d (.int .i64 v6))), (6, (.d (.int .i64 v38)))], heap := [], n := 33 }) ⟨rfl, (by first | (cbv; done) | ((repeat (cbv; simp only [c7])); first | done | cbv))⟩ ?_
        rintro v38 eK69 hsK69
        dsimp only [H94aL0] at hsK69
        refine AWp.seq ?_
        refine AWp.seq ?_
        refine AWp.rg hT hA {} (by cbv) (lb rfl) ?_
        refine nT ?_
        rcases tf (A.zlt v38 v6) with c39 | c39
        · replace hsK69 := cT c39 hsK69
          refine AWp.cdT rfl (by first | rfl | simp only [c39, Bool.not_true, Bool.not_false, cond_true, cond_false]) ?_
          refine AWp.skip ?_
          refine nT ?_
          refine AWp.seq ?_
          refine AWp.block ?_
          refine AWp.seq ?_
          refine AWp.regionDraw rfl (lb rfl) ?_
          obtain ⟨a40, e41, hsK69⟩ := bindS hsK69
          obtain ⟨f42, f43⟩ := gtI e41
          obtain ⟨⟨a44, a45, a46, a47, a48, a49⟩, e50, hsK69⟩ := bindS hsK69
          obtain ⟨f51, f52⟩ := gtI e50
          obtain ⟨a53, e54, hsK69⟩ := bindS hsK69
          obtain ⟨f55, f56⟩ := gtI e54
          obtain ⟨⟨a57, a58, a59, a60, a61, a62⟩, e63, hsK69⟩ := bindS hsK69
          obtain ⟨f64, f65⟩ := gtI e63
          obtain ⟨r67, e66, hsK69⟩ := bindS hsK69
          refine DOps.c0 hT hA {} rfl (by (repeat (cbv; simp only [c39, f42, f43, f51, f52, f55, f56, f64, f65])); first | done | cbv) (H68w hA e66) rfl rfl (lb rfl) rfl rfl ?_
          refine DOps.cd hT hA {} rfl (by (repeat (cbv; simp only [c39, f42, f43, f51, f52, f55, f56, f64, f65])); first | done | cbv) (by kernel_rfl) ?_
          refine nT ?_
          rcases tf r67 with c68 | c68
          · replace hsK69 := cT c68 hsK69
            refine AWp.cdT rfl (by first | rfl | simp only [c39, c68, Bool.not_true, Bool.not_false, cond_true, cond_false]) ?_
            refine AWp.seq ?_
            refine AWp.rg hT hA {} (by (repeat (cbv; simp only [c39, c68])); first | done | cbv) (lb rfl) ?_
            refine nT ?_
            refine AWp.ret ?_
            refine rB ?_
            refine rT ?_
            refine rT ?_
            refine exL hsK69 fun hx => ?_
            subst hx
            refine oxR ?_
            replace hkK69 := (eR (hK69 _ hkK69))
            refine rB ?_
            refine rB ?_
            refine rT ?_
            refine rT ?_
            refine exL hkK69 fun hx => ?_
            subst hx
            refine oxR ?_
            replace hkK70 := (eR (hK70 _ hkK70))
            refine rB ?_
            refine rT ?_
            cases soI hkK70
            exact ⟨rfl, rfl, rfl, lb rfl, _, rfl⟩
          · replace hsK69 := cF c68 hsK69
            refine AWp.cdF rfl (by first | rfl | simp only [c39, c68, Bool.not_true, Bool.not_false, cond_true, cond_false]) ?_
            refine AWp.skip ?_
            refine nB ?_
            refine nT ?_
            refine AWp.rg hT hA {} (by (repeat (cbv; simp only [c39, c68])); first | done | cbv) (lb rfl) ?_
            exact nT ⟨_, (soI hsK69).symm, rfl, (by first | (cbv; done) | ((repeat (cbv; simp only [c39, c68])); first | done | cbv))⟩
        · replace hsK69 := cF c39 hsK69
          refine AWp.cdF rfl (by first | rfl | simp only [c39, Bool.not_true, Bool.not_false, cond_true, cond_false]) ?_
          refine AWp.exit ?_
          refine xT ?_
          refine xT ?_
          refine exL hsK69 fun hx => ?_
          subst hx
          exact oxI ⟨rfl, hkK69, (by first | (cbv; done) | ((repeat (cbv; simp only [c39])); first | done | cbv))⟩
      · rintro _ ⟨hkK69, rfl⟩
        have hsK70 := (eL (hK69 _ hkK69))
        refine xB ?_
        refine nB ?_
        refine nT ?_
        refine AWp.rg hT hA {} (by cbv) (lb rfl) ?_
        exact nT ⟨_, (soI hsK70).symm, rfl, (by cbv)⟩
    · replace hsK70 := cF c7 hsK70
      refine AWp.cdF rfl (by first | rfl | simp only [c7, Bool.not_true, Bool.not_false, cond_true, cond_false]) ?_
      refine AWp.exit ?_
      refine xT ?_
      refine xT ?_
      refine exL hsK70 fun hx => ?_
      subst hx
      exact oxI ⟨rfl, hkK70, (by first | (cbv; done) | ((repeat (cbv; simp only [c7])); first | done | cbv))⟩
  · rintro _ ⟨hkK70, rfl⟩
    have h := (eL (hK70 _ hkK70))
    refine xB ?_
    refine nT ?_
    refine AWp.seq ?_
    refine AWp.rg hT hA {} (by cbv) (lb rfl) ?_
    refine nT ?_
    refine AWp.ret ?_
    cases soI h
    exact ⟨rfl, rfl, rfl, lb rfl, _, rfl⟩

theorem H80w {A : Ar} (hA : A = Ar.std) (h : H80 A = some ()) : ACall Try.prog 80 [] [] (.d (.bool true)) [] := by
  unfold H80 at h
  refine ACall.enter hT (fn := Try.f80) Try.func80 rfl (by decide) (by simp [Try.f80]) rfl rfl rfl rfl (lb rfl) ?_
  refine AWp.seq ?_
  refine AWp.rg hT hA {} (by cbv) (lb rfl) ?_
  refine nT ?_
  refine AWp.seq ?_
  refine AWp.rg hT hA {} (by cbv) (lb rfl) ?_
  refine nT ?_
  refine AWp.ret ?_
  cases soI h
  exact ⟨rfl, rfl, rfl, lb rfl, _, rfl⟩

theorem H86w {A : Ar} (hA : A = Ar.std) {x1 : List D} {x2 : Int} {v5 : Bool} (h : H86 A x1 x2 = some v5) : ACall Try.prog 86 [(.ptr 1 0)] [(.cells [(.d (.list 6 x1))]), (.cells [(.d (.int .i64 x2))])] (.d (.bool v5)) [(.cells [(.d (.list 6 x1))]), (.cells [(.d (.int .i64 x2))])] := by
  unfold H86 at h
  refine ACall.enter hT (fn := Try.f86) Try.func86 rfl (by decide) (by simp [Try.f86]) rfl rfl rfl rfl (lb rfl) ?_
  refine AWp.seq ?_
  refine AWp.rg hT hA {} (by cbv) (lb rfl) ?_
  refine nT ?_
  refine AWp.seq ?_
  refine AWp.region ?_
  obtain ⟨r4, e3, h⟩ := bindS h
  refine AOps.cc hT hA { tk := [3] } (by cbv) (lb rfl) (H77w hA e3) rfl (.inr rfl) rfl rfl rfl (lb rfl) rfl rfl ?_
  refine AOps.cd hT hA { tk := [3] } (by cbv) (lb rfl) ?_
  refine nT ?_
  refine AWp.ret ?_
  cases soI h
  exact ⟨rfl, rfl, rfl, lb rfl, _, rfl⟩

theorem H89w {A : Ar} (hA : A = Ar.std) {x1 : Int} {x2 : Int} {x3 : Int} {x4 : Int} {x5 : Int} {x6 : Int} {x7 : List D} {x8 : Int} {v9 : Bool} (h : H89 A x1 x2 x3 x4 x5 x6 x7 x8 = some v9) : ACall Try.prog 89 [(.d (.agg [(.int .i64 x1), (.int .i64 x2), (.int .i64 x3), (.int .i64 x4), (.int .i64 x5), (.int .i64 x6)])), (.ptr 1 0)] [(.cells [(.d (.list 6 x7))]), (.cells [(.d (.int .i64 x8))])] (.d (.bool v9)) [(.cells [(.d (.list 6 x7))]), (.cells [(.d (.int .i64 x8))])] := by
  unfold H89 at h
  refine ACall.enter hT (fn := Try.f89) Try.func89 rfl (by decide) (by simp [Try.f89]) rfl rfl rfl rfl (lb rfl) ?_
  refine AWp.seq ?_
  refine AWp.rg hT hA {} (by cbv) (lb rfl) ?_
  refine nT ?_
  refine AWp.seq ?_
  refine AWp.rg hT hA { tk := [7] } (by cbv) (lb rfl) ?_
  refine nT ?_
  refine AWp.ret ?_
  cases soI h
  exact ⟨rfl, rfl, rfl, lb rfl, _, rfl⟩

theorem H88aw {A : Ar} (hA : A = Ar.std) {x1 : List D} {x2 : List D} {x3 : Int} {v46 : List D} (h : H88a A x1 x2 x3 = some v46) : ACall Try.prog 88 [(.d (.list 6 x1)), (.func 89 [] [(.ptr 1 0)])] [(.cells [(.d (.list 6 x2))]), (.cells [(.d (.int .i64 x3))])] (.own 6 v46) [(.cells [(.d (.list 6 x2))]), (.cells [(.d (.int .i64 x3))])] := by
  unfold H88a at h
  refine ACall.enter hT (fn := Try.f88) Try.func88 rfl (by decide) (by simp [Try.f88]) rfl rfl rfl rfl (lb rfl) ?_
  refine AWp.seq ?_
  refine AWp.rg hT hA {} (by cbv) (lb rfl) ?_
  refine nT ?_
  refine AWp.seq ?_
  refine AWp.rg hT hA {} (by cbv) (lb rfl) ?_
  refine nT ?_
  refine AWp.seq ?_
  refine AWp.seq ?_
  refine AWp.rg hT hA {} (by cbv) (lb rfl) ?_
  refine nT ?_
  refine AWp.block ?_
  obtain ⟨xK45, hxK45, K45, hK45, hkK45⟩ := bindK h
  refine AWp.cutX 0 [5] [] 2 (lb rfl) (fun τ => ∃ v44, K45 v44 = some v46 ∧ τ = { env := [(5, (.own 6 v44))], heap := [(.cells [(.d (.list 6 x2))]), (.cells [(.d (.int .i64 x3))])], n := 23 }) ?_ ?_
  · skip
    refine AWp.iter hxK45 [1, 5, 8, 9, 10] [] 2 (lb rfl) (fun (v23, v24) => { env := [(1, (.func 89 [] [(.ptr 1 0)])), (5, (.own 6 v23)), (8, (.d (.list 6 x1))), (9, (.d (.int .i64 (A.len x1)))), (10, (.d (.int .i64 v24)))], heap := [(.cells [(.d (.list 6 x2))]), (.cells [(.d (.int .i64 x3))])], n := 23 }) ⟨rfl, (by cbv)⟩ ?_
    rintro ⟨v23, v24⟩ eK45 hsK45
    dsimp only [H88aL0] at hsK45
    refine AWp.seq ?_
    refine AWp.rg hT hA {} (by cbv) (lb rfl) ?_
    refine nT ?_
    refine AWp.seq ?_
    rcases tf (A.zlt v24 (A.len x1)) with c25 | c25
    · replace hsK45 := cT c25 hsK45
      refine AWp.cdT rfl (by first | rfl | simp only [c25, Bool.not_true, Bool.not_false, cond_true, cond_false]) ?_
      refine AWp.skip ?_
      refine nT ?_
      refine AWp.seq ?_
      refine AWp.block ?_
      refine AWp.seq ?_
      obtain ⟨⟨a26, a27, a28, a29, a30, a31⟩, e32, hsK45⟩ := bindS hsK45
      obtain ⟨f33, f34⟩ := gtI e32
      refine AWp.rg hT hA { tk := [13] } (by (repeat (cbv; simp only [c25, f33, f34])); first | done | cbv) (lb rfl) ?_
      refine nT ?_
      refine AWp.seq ?_
      refine AWp.region ?_
      obtain ⟨r36, e35, hsK45⟩ := bindS hsK45
      refine AOps.cc hT hA {} (by (repeat (cbv; simp only [c25])); first | done | cbv) (lb rfl) (H89w hA e35) rfl (.inl rfl) rfl rfl rfl (lb rfl) rfl rfl ?_
      refine AOps.cd hT hA {} (by (repeat (cbv; simp only [c25])); first | done | cbv) (lb rfl) ?_
      refine nT ?_
      obtain ⟨v42, hvK43, hsK45⟩ := bindS hsK45
      refine AWp.cutN [1, 5, 8, 9, 10] [] 2 (lb rfl) (fun τ => τ = { env := [(1, (.func 89 [] [(.ptr 1 0)])), (5, (.own 6 v42)), (8, (.d (.list 6 x1))), (9, (.d (.int .i64 (A.len x1)))), (10, (.d (.int .i64 v24)))], heap := [(.cells [(.d (.list 6 x2))]), (.cells [(.d (.int .i64 x3))])], n := 23 }) ?_ ?_
      · skip
        rcases tf r36 with c37 | c37
        · replace hvK43 := cT c37 hvK43
          refine AWp.cdT rfl (by first | rfl | simp only [c25, c37, Bool.not_true, Bool.not_false, cond_true, cond_false]) ?_
          obtain ⟨l38, e39, hvK43⟩ := bindS hvK43
          obtain ⟨f40, f41⟩ := apI e39
          refine AWp.rg hT hA { tk := [5, 20] } (by (repeat (cbv; simp only [c25, c37, f40, f41])); first | done | cbv) (lb rfl) ?_
          cases soI hvK43
          exact oNi ⟨rfl, (by first | (cbv; done) | ((repeat (cbv; simp only [c25, c37])); first | done | cbv))⟩
        · replace hvK43 := cF c37 hvK43
          refine AWp.cdF rfl (by first | rfl | simp only [c25, c37, Bool.not_true, Bool.not_false, cond_true, cond_false]) ?_
          refine AWp.skip ?_
          cases soI hvK43
          exact oNi ⟨rfl, (by first | (cbv; done) | ((repeat (cbv; simp only [c25, c37])); first | done | cbv))⟩
      · rintro _ rfl
        refine nB ?_
        refine nT ?_
        refine AWp.rg hT hA {} (by cbv) (lb rfl) ?_
        exact nT ⟨_, (soI hsK45).symm, rfl, (by cbv)⟩
    · replace hsK45 := cF c25 hsK45
      refine AWp.cdF rfl (by first | rfl | simp only [c25, Bool.not_true, Bool.not_false, cond_true, cond_false]) ?_
      refine AWp.exit ?_
      refine xT ?_
      refine xT ?_
      refine exL hsK45 fun hx => ?_
      subst hx
      exact oxI ⟨rfl, _, hkK45, (by first | (cbv; done) | ((repeat (cbv; simp only [c25])); first | done | cbv))⟩
  · rintro _ ⟨v44, hkK45, rfl⟩
    have h := (hK45 _ hkK45)
    refine xB ?_
    refine nT ?_
    refine AWp.seq ?_
    refine AWp.rg hT hA { tk := [5, 22] } (by cbv) (lb rfl) ?_
    refine nT ?_
    refine AWp.ret ?_
    cases soI h
    exact ⟨rfl, rfl, rfl, lb rfl, _, rfl⟩

theorem H87w {A : Ar} (hA : A = Ar.std) {x1 : List D} {x2 : Int} {v5 : List D} (h : H87 A x1 x2 = some v5) : ACall Try.prog 87 [(.ptr 0 0), (.ptr 1 0)] [(.cells [(.d (.list 6 x1))]), (.cells [(.d (.int .i64 x2))])] (.own 6 v5) [(.cells [(.d (.list 6 x1))]), (.cells [(.d (.int .i64 x2))])] := by
  unfold H87 at h
  refine ACall.enter hT (fn := Try.f87) Try.func87 rfl (by decide) (by simp [Try.f87]) rfl rfl rfl rfl (lb rfl) ?_
  refine AWp.seq ?_
  refine AWp.rg hT hA {} (by cbv) (lb rfl) ?_
  refine nT ?_
  refine AWp.seq ?_
  refine AWp.region ?_
  obtain ⟨r4, e3, h⟩ := bindS h
  refine AOps.cc hT hA { tk := [5] } (by cbv) (lb rfl) (H88aw hA e3) rfl (.inl rfl) rfl rfl rfl (lb rfl) rfl rfl ?_
  refine AOps.cd hT hA { tk := [5] } (by cbv) (lb rfl) ?_
  refine nT ?_
  refine AWp.ret ?_
  cases soI h
  exact ⟨rfl, rfl, rfl, lb rfl, _, rfl⟩

theorem H85w {A : Ar} (hA : A = Ar.std) {x1 : List D} {x2 : List D} {x3 : Int} {v12 : List D} {v13 : Int} (h : H85 A x1 x2 x3 = some (v12, v13)) : ACall Try.prog 85 [(.d (.list 6 x1)), (.func 86 [] [(.ptr 1 0)]), (.func 87 [] [(.ptr 0 0), (.ptr 1 0)])] [(.cells [(.d (.list 6 x2))]), (.cells [(.d (.int .i64 x3))])] (.tuple [(.d (.list 6 v12)), (.d (.int .i64 v13))]) [(.cells [(.d (.list 6 x2))]), (.cells [(.d (.int .i64 x3))])] := by
  unfold H85 at h
  refine ACall.enter hT (fn := Try.f85) Try.func85 rfl (by decide) (by simp [Try.f85]) rfl rfl rfl rfl (lb rfl) ?_
  refine AWp.seq ?_
  refine AWp.rg hT hA {} (by cbv) (lb rfl) ?_
  refine nT ?_
  refine AWp.seq ?_
  refine AWp.rg hT hA {} (by cbv) (lb rfl) ?_
  refine nT ?_
  refine AWp.seq ?_
  refine AWp.block ?_
  refine AWp.seq ?_
  refine AWp.region ?_
  obtain ⟨r5, e4, h⟩ := bindS h
  refine AOps.cc hT hA {} (by cbv) (lb rfl) (H24w hA e4) rfl (.inr rfl) rfl rfl rfl (lb rfl) rfl rfl ?_
  refine AOps.cd hT hA {} (by cbv) (lb rfl) ?_
  refine nT ?_
  rcases tf r5 with c6 | c6
  · replace h := cT c6 h
    refine AWp.cdF rfl (by first | rfl | simp only [c6, Bool.not_true, Bool.not_false, cond_true, cond_false]) ?_
    refine AWp.seq ?_
    refine AWp.region ?_
    obtain ⟨r8, e7, h⟩ := bindS h
    refine AOps.cc hT hA {} (by (repeat (cbv; simp only [c6])); first | done | cbv) (lb rfl) (H86w hA e7) rfl (.inl rfl) rfl rfl rfl (lb rfl) rfl rfl ?_
    refine AOps.cd hT hA {} (by (repeat (cbv; simp only [c6])); first | done | cbv) (lb rfl) ?_
    refine nT ?_
    rcases tf r8 with c9 | c9
    · replace h := cT c9 h
      refine AWp.cdF rfl (by first | rfl | simp only [c6, c9, Bool.not_true, Bool.not_false, cond_true, cond_false]) ?_
      refine AWp.skip ?_
      refine nB ?_
      refine nT ?_
      refine AWp.seq ?_
      refine AWp.region ?_
      obtain ⟨r11, e10, h⟩ := bindS h
      refine AOps.cc hT hA {} (by (repeat (cbv; simp only [c6, c9])); first | done | cbv) (lb rfl) (H87w hA e10) rfl (.inl rfl) rfl rfl rfl (lb rfl) rfl rfl ?_
      refine AOps.cd hT hA {} (by (repeat (cbv; simp only [c6, c9])); first | done | cbv) (lb rfl) ?_
      refine nT ?_
      refine AWp.ret ?_
      cases soI h
      exact ⟨rfl, rfl, rfl, lb rfl, _, rfl⟩
    · replace h := cF c9 h
      refine AWp.cdT rfl (by first | rfl | simp only [c6, c9, Bool.not_true, Bool.not_false, cond_true, cond_false]) ?_
      refine AWp.seq ?_
      refine AWp.rg hT hA {} (by (repeat (cbv; simp only [c6, c9])); first | done | cbv) (lb rfl) ?_
      refine nT ?_
      refine AWp.ret ?_
      refine rB ?_
      refine rT ?_
      cases soI h
      exact ⟨rfl, rfl, rfl, lb rfl, _, rfl⟩
  · replace h := cF c6 h
    refine AWp.cdT rfl (by first | rfl | simp only [c6, Bool.not_true, Bool.not_false, cond_true, cond_false]) ?_
    refine AWp.seq ?_
    refine AWp.rg hT hA {} (by (repeat (cbv; simp only [c6])); first | done | cbv) (lb rfl) ?_
    refine nT ?_
    refine AWp.ret ?_
    refine rB ?_
    refine rT ?_
    cases soI h
    exact ⟨rfl, rfl, rfl, lb rfl, _, rfl⟩

theorem H40w {A : Ar} (hA : A = Ar.std) {x1 : List D} {x2 : Int} {v6 : List D} {v7 : Int} (h : H40 A x1 x2 = some (v6, v7)) : ACall Try.prog 40 [(.d (.list 6 x1)), (.d (.int .i64 x2))] [] (.tuple [(.d (.list 6 v6)), (.d (.int .i64 v7))]) [] := by
  unfold H40 at h
  refine ACall.enter hT (fn := Try.f40) Try.func40 rfl (by decide) (by simp [Try.f40]) rfl rfl rfl rfl (lb rfl) ?_
  refine AWp.seq ?_
  refine AWp.rg hT hA { esc := [2, 3] } (by cbv) (lb rfl) ?_
  refine nT ?_
  refine AWp.seq ?_
  refine AWp.region ?_
  obtain ⟨⟨r4, r5⟩, e3, h⟩ := bindS h
  refine AOps.cc hT hA {} (by cbv) (lb rfl) (H85w hA e3) rfl (.inl rfl) rfl rfl rfl (lb rfl) rfl rfl ?_
  refine AOps.cd hT hA {} (by cbv) (lb rfl) ?_
  refine nT ?_
  refine AWp.ret ?_
  cases soI h
  exact ⟨rfl, rfl, rfl, lb rfl, _, rfl⟩

theorem H90w {A : Ar} (hA : A = Ar.std) {x1 : List D} {v12 : List D} (h : H90 A x1 = some v12) : ACall Try.prog 90 [(.d (.list 6 x1))] [] (.own 6 v12) [] := by
  unfold H90 at h
  refine ACall.enter hT (fn := Try.f90) Try.func90 rfl (by decide) (by simp [Try.f90]) rfl rfl rfl rfl (lb rfl) ?_
  refine AWp.seq ?_
  refine AWp.rg hT hA {} (by cbv) (lb rfl) ?_
  refine nT ?_
  refine AWp.seq ?_
  refine AWp.seq ?_
  rcases tf (A.zlt 0 (A.len x1)) with c2 | c2
  · replace h := cT c2 h
    refine AWp.rg hT hA {} (by (repeat (cbv; simp only [c2])); first | done | cbv) (lb rfl) ?_
    refine nT ?_
    refine AWp.cond (b := false) (by cbv; simp only [c2]) ?_
    rw [if_neg Bool.false_ne_true]
    refine AWp.skip ?_
    refine nT ?_
    refine AWp.seq ?_
    obtain ⟨l4, e5, h⟩ := bindS h
    obtain ⟨f6, f7⟩ := apI e5
    refine AWp.rg hT hA { tk := [7] } (by (repeat (cbv; simp only [c2, f6, f7])); first | done | cbv) (lb rfl) ?_
    refine nT ?_
    refine AWp.ret ?_
    cases soI h
    exact ⟨rfl, rfl, rfl, lb rfl, _, rfl⟩
  · replace h := cF c2 h
    refine AWp.rg hT hA {} (by (repeat (cbv; simp only [c2])); first | done | cbv) (lb rfl) ?_
    refine nT ?_
    obtain ⟨hc3a, hc3b⟩ := bothI h
    refine AWp.condAny (by cbv; simp only [c2]) ?_ ?_
    · replace h := hc3a
      refine AWp.seq ?_
      refine AWp.rg hT hA {} (by (repeat (cbv; simp only [c2])); first | done | cbv) (lb rfl) ?_
      refine nT ?_
      refine AWp.ret ?_
      refine rT ?_
      cases soI h
      exact ⟨rfl, rfl, rfl, lb rfl, _, rfl⟩
    · replace h := hc3b
      refine AWp.skip ?_
      refine nT ?_
      refine AWp.seq ?_
      obtain ⟨l8, e9, h⟩ := bindS h
      obtain ⟨f10, f11⟩ := apI e9
      refine AWp.rg hT hA { tk := [7] } (by (repeat (cbv; simp only [c2, f10, f11])); first | done | cbv) (lb rfl) ?_
      refine nT ?_
      refine AWp.ret ?_
      cases soI h
      exact ⟨rfl, rfl, rfl, lb rfl, _, rfl⟩

theorem H24aw {A : Ar} (hA : A = Ar.std) {x1 : Int} {x2 : Int} {x3 : List D} {v212 : Bool} (h : H24a A x1 x2 x3 = some v212) : ACall Try.prog 24 [(.mref 0 6 x1 x2)] [(.arr 6 x3)] (.d (.bool v212)) [(.arr 6 x3)] := by
  unfold H24a at h
  refine ACall.enter hT (fn := Try.f24) Try.func24 rfl (by decide) (by simp [Try.f24]) rfl rfl rfl rfl (lb rfl) ?_
  refine AWp.seq ?_
  refine AWp.rg hT hA {} (by cbv) (lb rfl) ?_
  refine nT ?_
  refine AWp.seq ?_
  refine AWp.seq ?_
  refine AWp.rg hT hA {} (by cbv) (lb rfl) ?_
  refine nT ?_
  rcases tf (A.zlt 8 x2) with c4 | c4
  · replace h := cT c4 h
    refine AWp.cdT rfl (by first | rfl | simp only [c4, Bool.not_true, Bool.not_false, cond_true, cond_false]) ?_
    refine AWp.seq ?_
    refine AWp.rg hT hA {} (by (repeat (cbv; simp only [c4])); first | done | cbv) (lb rfl) ?_
    refine nT ?_
    refine AWp.ret ?_
    refine rT ?_
    cases soI h
    exact ⟨rfl, rfl, rfl, lb rfl, _, rfl⟩
  · replace h := cF c4 h
    refine AWp.cdF rfl (by first | rfl | simp only [c4, Bool.not_true, Bool.not_false, cond_true, cond_false]) ?_
    refine AWp.skip ?_
    refine nT ?_
    refine AWp.seq ?_
    refine AWp.rg hT hA { arr := [3] } (by (repeat (cbv; simp only [c4])); first | done | cbv) (lb rfl) ?_
    refine nT ?_
    refine AWp.seq ?_
    refine AWp.seq ?_
    refine AWp.rg hT hA {} (by (repeat (cbv; simp only [c4])); first | done | cbv) (lb rfl) ?_
    refine nT ?_
    refine AWp.block ?_
    obtain ⟨xK211, hxK211, K211, hK211, hkK211⟩ := bindK h
    refine AWp.cutX 0 [] [] 2 (lb rfl) (fun τ => ∃ v209, K211 (.inl v209) = some v212 ∧ τ = { env := [], heap := [(.arr 6 x3), (.arr 1 v209)], n := 67 }) ?_ ?_
    · skip
      refine AWp.iter hxK211 [0, 3, 11, 12, 13] [] 2 (lb rfl) (fun (v106, v107) => { env := [(0, (.mref 0 6 x1 x2)), (3, (.ptr 1 0)), (11, (.mref 0 6 x1 x2)), (12, (.d (.int .i64 x2))), (13, (.d (.int .i64 v106)))], heap := [(.arr 6 x3), (.arr 1 v107)], n := 67 }) ⟨rfl, (by first | (cbv; done) | ((repeat (cbv; simp only [c4])); first | done | cbv))⟩ ?_
      rintro ⟨v106, v107⟩ eK211 hsK211
      dsimp only [H24aL1] at hsK211
      refine AWp.seq ?_
      refine AWp.rg hT hA {} (by cbv) (lb rfl) ?_
      refine nT ?_
      refine AWp.seq ?_
      rcases tf (A.zlt v106 x2) with c108 | c108
      · replace hsK211 := cT c108 hsK211
        refine AWp.cdT rfl (by first | rfl | simp only [c108, Bool.not_true, Bool.not_false, cond_true, cond_false]) ?_
        refine AWp.skip ?_
        refine nT ?_
        refine AWp.seq ?_
        refine AWp.block ?_
        refine AWp.seq ?_
        obtain ⟨_, e109, hsK211⟩ := bindS hsK211
        have f111 := ckI e109
        obtain ⟨_, e110, hsK211⟩ := bindS hsK211
        have f112 := ckI e110
        obtain ⟨⟨a113, a114, a115, a116, a117, a118⟩, e119, hsK211⟩ := bindS hsK211
        have f120 := gcI e119
        refine AWp.rg hT hA { tk := [17] } (by (repeat (cbv; simp only [c108, f111, f112, f120])); first | done | cbv) (lb rfl) ?_
        refine nT ?_
        refine AWp.seq ?_
        refine AWp.seq ?_
        obtain ⟨v131, hvK132, hsK211⟩ := bindS hsK211
        refine AWp.cutN [0, 3, 4, 5, 11, 12, 13, 26] [] 2 (lb rfl) (fun τ => τ = { env := [(0, (.mref 0 6 x1 x2)), (3, (.ptr 1 0)), (4, (.d (.int .i64 v106))), (5, (.lbox [(.d (.int .i64 a113)), (.d (.int .i64 a114)), (.d (.int .i64 a115)), (.d (.int .i64 a116)), (.d (.int .i64 a117)), (.d (.int .i64 a118))])), (11, (.mref 0 6 x1 x2)), (12, (.d (.int .i64 x2))), (13, (.d (.int .i64 v106))), (26, (.d (.bool v131)))], heap := [(.arr 6 x3), (.arr 1 v107)], n := 67 }) ?_ ?_
        · skip
          refine AWp.region ?_
          obtain ⟨r122, e121, hvK132⟩ := bindS hvK132
          refine AOps.cc hT hA {} (by (repeat (cbv; simp only [c108])); first | done | cbv) (lb rfl) (H69w hA e121) rfl (.inr rfl) rfl rfl rfl (lb rfl) rfl rfl ?_
          rcases tf r122 with c123 | c123
          · replace hvK132 := cT c123 hvK132
            obtain ⟨_, e124, hvK132⟩ := bindS hvK132
            have f126 := ckI e124
            obtain ⟨_, e125, hvK132⟩ := bindS hvK132
            have f127 := ckI e125
            obtain ⟨a128, e129, hvK132⟩ := bindS hvK132
            have f130 := gcI e129
            refine AOps.cd hT hA {} (by (repeat (cbv; simp only [c108, c123, f126, f127, f130])); first | done | cbv) (lb rfl) ?_
            cases soI hvK132
            exact oNi ⟨rfl, (by first | (cbv; done) | ((repeat (cbv; simp only [c108, c123])); first | done | cbv))⟩
          · replace hvK132 := cF c123 hvK132
            refine AOps.cd hT hA {} (by (repeat (cbv; simp only [c108, c123])); first | done | cbv) (lb rfl) ?_
            cases soI hvK132
            exact oNi ⟨rfl, (by first | (cbv; done) | ((repeat (cbv; simp only [c108, c123])); first | done | cbv))⟩
        · rintro _ rfl
          refine nT ?_
          rcases tf v131 with c133 | c133
          · replace hsK211 := cT c133 hsK211
            refine AWp.cdT rfl (by first | rfl | simp only [c133, Bool.not_true, Bool.not_false, cond_true, cond_false]) ?_
            refine AWp.seq ?_
            refine AWp.rg hT hA {} (by (repeat (cbv; simp only [c133])); first | done | cbv) (lb rfl) ?_
            refine nT ?_
            refine AWp.ret ?_
            refine rT ?_
            refine rB ?_
            refine rT ?_
            refine rT ?_
            refine exL hsK211 fun hx => ?_
            subst hx
            refine oxR ?_
            replace hkK211 := (eR (hK211 _ hkK211))
            refine rB ?_
            refine rT ?_
            cases soI hkK211
            exact ⟨rfl, rfl, rfl, lb rfl, _, rfl⟩
          · replace hsK211 := cF c133 hsK211
            refine AWp.cdF rfl (by first | rfl | simp only [c133, Bool.not_true, Bool.not_false, cond_true, cond_false]) ?_
            refine AWp.skip ?_
            refine nT ?_
            refine AWp.seq ?_
            obtain ⟨_, e134, hsK211⟩ := bindS hsK211
            have f136 := ckI e134
            obtain ⟨_, e135, hsK211⟩ := bindS hsK211
            have f137 := ckI e135
            obtain ⟨d138, e139, hsK211⟩ := bindS hsK211
            refine AWp.rg hT hA {} (by (repeat (cbv; simp only [c133, f136, f137, e139])); first | done | cbv) (lb rfl) ?_
            refine nT ?_
            refine AWp.seq ?_
            refine AWp.seq ?_
            refine AWp.rg hT hA {} (by (repeat (cbv; simp only [c133])); first | done | cbv) (lb rfl) ?_
            refine nT ?_
            obtain ⟨K156, hK156, hsK211⟩ := jnI hsK211
            refine AWp.cutN [0, 3, 4, 5, 11, 12, 13] [] 2 (lb rfl) (fun τ => ∃ v155, K156 v155 = some eK211 ∧ τ = { env := [(0, (.mref 0 6 x1 x2)), (3, (.ptr 1 0)), (4, (.d (.int .i64 v106))), (5, (.lbox [(.d (.int .i64 a113)), (.d (.int .i64 a114)), (.d (.int .i64 a115)), (.d (.int .i64 a116)), (.d (.int .i64 a117)), (.d (.int .i64 a118))])), (11, (.mref 0 6 x1 x2)), (12, (.d (.int .i64 x2))), (13, (.d (.int .i64 v106)))], heap := [(.arr 6 x3), (.arr 1 v155)], n := 67 }) ?_ ?_
            · skip
              rcases tf (A.zlt 0 a118) with c140 | c140
              · replace hsK211 := cT c140 hsK211
                refine AWp.cdT rfl (by first | rfl | simp only [c133, c140, Bool.not_true, Bool.not_false, cond_true, cond_false]) ?_
                refine AWp.seq ?_
                refine AWp.seq ?_
                obtain ⟨_, e141, hsK211⟩ := bindS hsK211
                have f143 := ckI e141
                obtain ⟨_, e142, hsK211⟩ := bindS hsK211
                have f144 := ckI e142
                obtain ⟨a145, e146, hsK211⟩ := bindS hsK211
                have f147 := gcI e146
                refine AWp.rg hT hA {} (by (repeat (cbv; simp only [c133, c140, f143, f144, f147])); first | done | cbv) (lb rfl) ?_
                refine nT ?_
                rcases tf a145 with c148 | c148
                · replace hsK211 := cT c148 hsK211
                  refine AWp.cdT rfl (by first | rfl | simp only [c133, c140, c148, Bool.not_true, Bool.not_false, cond_true, cond_false]) ?_
                  refine AWp.seq ?_
                  refine AWp.rg hT hA {} (by (repeat (cbv; simp only [c133, c140, c148])); first | done | cbv) (lb rfl) ?_
                  refine nT ?_
                  refine AWp.ret ?_
                  refine rT ?_
                  refine oNr ?_
                  refine rT ?_
                  refine rB ?_
                  refine rT ?_
                  refine rT ?_
                  refine exL hsK211 fun hx => ?_
                  subst hx
                  refine oxR ?_
                  replace hkK211 := (eR (hK211 _ hkK211))
                  refine rB ?_
                  refine rT ?_
                  cases soI hkK211
                  exact ⟨rfl, rfl, rfl, lb rfl, _, rfl⟩
                · replace hsK211 := cF c148 hsK211
                  refine AWp.cdF rfl (by first | rfl | simp only [c133, c140, c148, Bool.not_true, Bool.not_false, cond_true, cond_false]) ?_
                  refine AWp.skip ?_
                  refine nT ?_
                  obtain ⟨_, e149, hsK211⟩ := bindS hsK211
                  have f151 := ckI e149
                  obtain ⟨_, e150, hsK211⟩ := bindS hsK211
                  have f152 := ckI e150
                  obtain ⟨d153, e154, hsK211⟩ := bindS hsK211
                  refine AWp.rg hT hA {} (by (repeat (cbv; simp only [c133, c140, c148, f151, f152, e154])); first | done | cbv) (lb rfl) ?_
                  exact oNi ⟨rfl, _, hsK211, (by first | (cbv; done) | ((repeat (cbv; simp only [c133, c140, c148])); first | done | cbv))⟩
              · replace hsK211 := cF c140 hsK211
                refine AWp.cdF rfl (by first | rfl | simp only [c133, c140, Bool.not_true, Bool.not_false, cond_true, cond_false]) ?_
                refine AWp.skip ?_
                exact oNi ⟨rfl, _, hsK211, (by first | (cbv; done) | ((repeat (cbv; simp only [c133, c140])); first | done | cbv))⟩
            · rintro _ ⟨v155, hsK211, rfl⟩
              replace hsK211 := hK156 _ hsK211
              refine nT ?_
              refine AWp.seq ?_
              obtain ⟨_, e157, hsK211⟩ := bindS hsK211
              have f160 := ckI e157
              obtain ⟨_, e158, hsK211⟩ := bindS hsK211
              have f161 := ckI e158
              obtain ⟨_, e159, hsK211⟩ := bindS hsK211
              have f162 := ckI e159
              refine AWp.rg hT hA {} (by (repeat (cbv; simp only [f160, f161, f162])); first | done | cbv) (lb rfl) ?_
              refine nT ?_
              refine AWp.block ?_
              obtain ⟨xK208, hxK208, K208, hK208, hkK208⟩ := bindK hsK211
              refine AWp.cutX 2 [0, 3, 11, 12, 13] [] 2 (lb rfl) (fun τ => K208 (.inl ()) = some eK211 ∧ τ = { env := [(0, (.mref 0 6 x1 x2)), (3, (.ptr 1 0)), (11, (.mref 0 6 x1 x2)), (12, (.d (.int .i64 x2))), (13, (.d (.int .i64 v106)))], heap := [(.arr 6 x3), (.arr 1 v155)], n := 67 }) ?_ ?_
              · skip
                refine AWp.iter hxK208 [0, 3, 5, 11, 12, 13, 42, 43, 44] [] 2 (lb rfl) (fun v185 => { env := [(0, (.mref 0 6 x1 x2)), (3, (.ptr 1 0)), (5, (.lbox [(.d (.int .i64 a113)), (.d (.int .i64 a114)), (.d (.int .i64 a115)), (.d (.int .i64 a116)), (.d (.int .i64 a117)), (.d (.int .i64 a118))])), (11, (.mref 0 6 x1 x2)), (12, (.d (.int .i64 x2))), (13, (.d (.int .i64 v106))), (42, (.mref 0 6 (A.zadd x1 0) (A.zsub v106 0))), (43, (.d (.int .i64 (A.zsub v106 0)))), (44, (.d (.int .i64 v185)))], heap := [(.arr 6 x3), (.arr 1 v155)], n := 67 }) ⟨rfl, (by cbv)⟩ ?_
                rintro v185 eK208 hsK208
                dsimp only [H24aL0] at hsK208
                refine AWp.seq ?_
                refine AWp.rg hT hA {} (by cbv) (lb rfl) ?_
                refine nT ?_
                refine AWp.seq ?_
                rcases tf (A.zlt v185 (A.zsub v106 0)) with c186 | c186
                · replace hsK208 := cT c186 hsK208
                  refine AWp.cdT rfl (by first | rfl | simp only [c186, Bool.not_true, Bool.not_false, cond_true, cond_false]) ?_
                  refine AWp.skip ?_
                  refine nT ?_
                  refine AWp.seq ?_
                  refine AWp.block ?_
                  refine AWp.seq ?_
                  obtain ⟨_, e187, hsK208⟩ := bindS hsK208
                  have f189 := ckI e187
                  obtain ⟨_, e188, hsK208⟩ := bindS hsK208
                  have f190 := ckI e188
                  obtain ⟨⟨a191, a192, a193, a194, a195, a196⟩, e197, hsK208⟩ := bindS hsK208
                  have f198 := gcI e197
                  refine AWp.rg hT hA { tk := [47] } (by (repeat (cbv; simp only [c186, f189, f190, f198])); first | done | cbv) (lb rfl) ?_
                  refine nT ?_
                  refine AWp.seq ?_
                  obtain ⟨v205, hvK206, hsK208⟩ := bindS hsK208
                  refine AWp.cutN [0, 3, 5, 11, 12, 13, 42, 43, 44, 64] [] 2 (lb rfl) (fun τ => τ = { env := [(0, (.mref 0 6 x1 x2)), (3, (.ptr 1 0)), (5, (.lbox [(.d (.int .i64 a113)), (.d (.int .i64 a114)), (.d (.int .i64 a115)), (.d (.int .i64 a116)), (.d (.int .i64 a117)), (.d (.int .i64 a118))])), (11, (.mref 0 6 x1 x2)), (12, (.d (.int .i64 x2))), (13, (.d (.int .i64 v106))), (42, (.mref 0 6 (A.zadd x1 0) (A.zsub v106 0))), (43, (.d (.int .i64 (A.zsub v106 0)))), (44, (.d (.int .i64 v185))), (64, (.d (.bool v205)))], heap := [(.arr 6 x3), (.arr 1 v155)], n := 67 }) ?_ ?_
                  · skip
                    refine AWp.region ?_
                    rcases tf (A.zeq a113 a191) with c199 | c199
                    · replace hvK206 := cT c199 hvK206
                      obtain ⟨r201, e200, hvK206⟩ := bindS hvK206
                      refine AOps.cc hT hA {} (by (repeat (cbv; simp only [c186, c199])); first | done | cbv) (lb rfl) (H66w hA e200) rfl (.inr rfl) rfl rfl rfl (lb rfl) rfl rfl ?_
                      rcases tf r201 with c202 | c202
                      · replace hvK206 := cT c202 hvK206
                        refine AOps.cd hT hA {} (by (repeat (cbv; simp only [c186, c199, c202])); first | done | cbv) (lb rfl) ?_
                        cases soI hvK206
                        exact oNi ⟨rfl, (by first | (cbv; done) | ((repeat (cbv; simp only [c186, c199, c202])); first | done | cbv))⟩
                      · replace hvK206 := cF c202 hvK206
                        obtain ⟨r204, e203, hvK206⟩ := bindS hvK206
                        refine AOps.cc hT hA {} (by (repeat (cbv; simp only [c186, c199, c202])); first | done | cbv) (lb rfl) (H66w hA e203) rfl (.inr rfl) rfl rfl rfl (lb rfl) rfl rfl ?_
                        refine AOps.cd hT hA {} (by (repeat (cbv; simp only [c186, c199, c202])); first | done | cbv) (lb rfl) ?_
                        cases soI hvK206
                        exact oNi ⟨rfl, (by first | (cbv; done) | ((repeat (cbv; simp only [c186, c199, c202])); first | done | cbv))⟩
                    · replace hvK206 := cF c199 hvK206
                      refine AOps.cd hT hA {} (by (repeat (cbv; simp only [c186, c199])); first | done | cbv) (lb rfl) ?_
                      cases soI hvK206
                      exact oNi ⟨rfl, (by first | (cbv; done) | ((repeat (cbv; simp only [c186, c199])); first | done | cbv))⟩
                  · rintro _ rfl
                    refine nT ?_
                    rcases tf v205 with c207 | c207
                    · replace hsK208 := cT c207 hsK208
                      refine AWp.cdT rfl (by first | rfl | simp only [c207, Bool.not_true, Bool.not_false, cond_true, cond_false]) ?_
                      refine AWp.seq ?_
                      refine AWp.rg hT hA {} (by (repeat (cbv; simp only [c207])); first | done | cbv) (lb rfl) ?_
                      refine nT ?_
                      refine AWp.ret ?_
                      refine rB ?_
                      refine rT ?_
                      refine rT ?_
                      refine exL hsK208 fun hx => ?_
                      subst hx
                      refine oxR ?_
                      replace hkK208 := (eR (hK208 _ hkK208))
                      refine rB ?_
                      refine rB ?_
                      refine rT ?_
                      refine rT ?_
                      refine exL hkK208 fun hx => ?_
                      subst hx
                      refine oxR ?_
                      replace hkK211 := (eR (hK211 _ hkK211))
                      refine rB ?_
                      refine rT ?_
                      cases soI hkK211
                      exact ⟨rfl, rfl, rfl, lb rfl, _, rfl⟩
                    · replace hsK208 := cF c207 hsK208
                      refine AWp.cdF rfl (by first | rfl | simp only [c207, Bool.not_true, Bool.not_false, cond_true, cond_false]) ?_
                      refine AWp.skip ?_
                      refine nB ?_
                      refine nT ?_
                      refine AWp.rg hT hA {} (by (repeat (cbv; simp only [c207])); first | done | cbv) (lb rfl) ?_
                      exact nT ⟨_, (soI hsK208).symm, rfl, (by first | (cbv; done) | ((repeat (cbv; simp only [c207])); first | done | cbv))⟩
                · replace hsK208 := cF c186 hsK208
                  refine AWp.cdF rfl (by first | rfl | simp only [c186, Bool.not_true, Bool.not_false, cond_true, cond_false]) ?_
                  refine AWp.exit ?_
                  refine xT ?_
                  refine xT ?_
                  refine exL hsK208 fun hx => ?_
                  subst hx
                  exact oxI ⟨rfl, hkK208, (by first | (cbv; done) | ((repeat (cbv; simp only [c186])); first | done | cbv))⟩
              · rintro _ ⟨hkK208, rfl⟩
                have hsK211 := (eL (hK208 _ hkK208))
                refine xB ?_
                refine nB ?_
                refine nT ?_
                refine AWp.rg hT hA {} (by cbv) (lb rfl) ?_
                exact nT ⟨_, (soI hsK211).symm, rfl, (by cbv)⟩
      · replace hsK211 := cF c108 hsK211
        refine AWp.cdF rfl (by first | rfl | simp only [c108, Bool.not_true, Bool.not_false, cond_true, cond_false]) ?_
        refine AWp.exit ?_
        refine xT ?_
        refine xT ?_
        refine exL hsK211 fun hx => ?_
        subst hx
        exact oxI ⟨rfl, _, hkK211, (by first | (cbv; done) | ((repeat (cbv; simp only [c108])); first | done | cbv))⟩
    · rintro _ ⟨v209, hkK211, rfl⟩
      have h := (eL (hK211 _ hkK211))
      refine xB ?_
      refine nT ?_
      refine AWp.seq ?_
      refine AWp.rg hT hA {} (by cbv) (lb rfl) ?_
      refine nT ?_
      refine AWp.ret ?_
      cases soI h
      exact ⟨rfl, rfl, rfl, lb rfl, _, rfl⟩

theorem H91w {A : Ar} (hA : A = Ar.std) {x1 : List D} {x2 : Int} {x3 : Int} {x4 : Int} {x5 : List D} {x6 : Int} {x7 : Int} {v51 : Bool} {v52 : List D} (h : H91 A x1 x2 x3 x4 x5 x6 x7 = some (v51, v52)) : ACall Try.prog 91 [(.iptr [(.list 6 x1)]), (.iptr [(.int .i64 x2)]), (.iptr [(.int .i64 x3)]), (.iptr [(.int .i64 x4)]), (.ptr 1 0)] [(.arr 6 x5), (.cells [(.mref 0 6 x6 x7)])] (.d (.bool v51)) [(.arr 6 v52), (.cells [(.mref 0 6 x6 x7)])] := by
  unfold H91 at h
  refine ACall.enter hT (fn := Try.f91) Try.func91 rfl (by decide) (by simp [Try.f91]) rfl rfl rfl rfl (lb rfl) ?_
  refine AWp.seq ?_
  refine AWp.rg hT hA {} (by cbv) (lb rfl) ?_
  refine nT ?_
  refine AWp.seq ?_
  refine AWp.seq ?_
  obtain ⟨v22, hvK23, h⟩ := bindS h
  refine AWp.cutN [1, 2, 3, 4, 35] [] 2 (lb rfl) (fun τ => τ = { env := [(1, (.iptr [(.int .i64 x2)])), (2, (.iptr [(.int .i64 x3)])), (3, (.iptr [(.int .i64 x4)])), (4, (.ptr 1 0)), (35, (.d (.bool v22)))], heap := [(.arr 6 x5), (.cells [(.mref 0 6 x6 x7)])], n := 48 }) ?_ ?_
  · skip
    refine AWp.regionDraw rfl (lb rfl) ?_
    obtain ⟨r9, e8, hvK23⟩ := bindS hvK23
    refine DOps.c0 hT hA {} rfl (by cbv) (H64w hA e8) rfl rfl (lb rfl) rfl rfl ?_
    rcases tf r9 with c10 | c10
    · replace hvK23 := cT c10 hvK23
      obtain ⟨⟨a11, a12, a13, a14, a15, a16⟩, e17, hvK23⟩ := bindS hvK23
      obtain ⟨f18, f19⟩ := gtI e17
      rcases tf (A.zeq a16 0) with c20 | c20
      · replace hvK23 := cT c20 hvK23
        refine DOps.cd hT hA {} rfl (by (repeat (cbv; simp only [c10, c20, f18, f19])); first | done | cbv) (by kernel_rfl) ?_
        cases soI hvK23
        exact oNi ⟨rfl, (by first | (cbv; done) | ((repeat (cbv; simp only [c10, c20])); first | done | cbv))⟩
      · replace hvK23 := cF c20 hvK23
        rcases tf (A.zlt a15 x3) with c21 | c21
        · replace hvK23 := cT c21 hvK23
          refine DOps.cd hT hA {} rfl (by (repeat (cbv; simp only [c10, c20, c21, f18, f19])); first | done | cbv) (by kernel_rfl) ?_
          cases soI hvK23
          exact oNi ⟨rfl, (by first | (cbv; done) | ((repeat (cbv; simp only [c10, c20, c21])); first | done | cbv))⟩
        · replace hvK23 := cF c21 hvK23
          refine DOps.cd hT hA {} rfl (by (repeat (cbv; simp only [c10, c20, c21, f18, f19])); first | done | cbv) (by kernel_rfl) ?_
          cases soI hvK23
          exact oNi ⟨rfl, (by first | (cbv; done) | ((repeat (cbv; simp only [c10, c20, c21])); first | done | cbv))⟩
    · replace hvK23 := cF c10 hvK23
      refine DOps.cd hT hA {} rfl (by (repeat (cbv; simp only [c10])); first | done | cbv) (by kernel_rfl) ?_
      cases soI hvK23
      exact oNi ⟨rfl, (by first | (cbv; done) | ((repeat (cbv; simp only [c10])); first | done | cbv))⟩
  · rintro _ rfl
    refine nT ?_
    rcases tf v22 with c24 | c24
    · replace h := cT c24 h
      refine AWp.cdT rfl (by first | rfl | simp only [c24, Bool.not_true, Bool.not_false, cond_true, cond_false]) ?_
      refine AWp.seq ?_
      refine AWp.rg hT hA {} (by (repeat (cbv; simp only [c24])); first | done | cbv) (lb rfl) ?_
      refine nT ?_
      refine AWp.ret ?_
      refine rT ?_
      cases soI h
      exact ⟨rfl, rfl, rfl, lb rfl, _, rfl⟩
    · replace h := cF c24 h
      refine AWp.cdF rfl (by first | rfl | simp only [c24, Bool.not_true, Bool.not_false, cond_true, cond_false]) ?_
      refine AWp.skip ?_
      refine nT ?_
      refine AWp.seq ?_
      obtain ⟨_, e25, h⟩ := bindS h
      have f27 := ckI e25
      obtain ⟨_, e26, h⟩ := bindS h
      have f28 := ckI e26
      obtain ⟨⟨a29, a30, a31, a32, a33, a34⟩, e35, h⟩ := bindS h
      have f36 := gcI e35
      obtain ⟨_, e37, h⟩ := bindS h
      have f39 := ckI e37
      obtain ⟨_, e38, h⟩ := bindS h
      have f40 := ckI e38
      obtain ⟨⟨a41, a42, a43, a44, a45, a46⟩, e47, h⟩ := bindS h
      have f48 := gcI e47
      refine AWp.rd hT hA {} rfl (by (repeat (cbv; simp only [c24, f27, f28, f36, f39, f40, f48])); first | done | cbv) (by kernel_rfl) (lb rfl) ?_
      refine nT ?_
      refine AWp.seq ?_
      refine AWp.region ?_
      obtain ⟨r50, e49, h⟩ := bindS h
      refine AOps.cc hT hA { tk := [47] } (by (repeat (cbv; simp only [c24])); first | done | cbv) (lb rfl) (H24aw hA e49) rfl (.inr rfl) rfl rfl rfl (lb rfl) rfl rfl ?_
      refine AOps.cd hT hA { tk := [47] } (by (repeat (cbv; simp only [c24])); first | done | cbv) (lb rfl) ?_
      refine nT ?_
      refine AWp.ret ?_
      cases soI h
      exact ⟨rfl, rfl, rfl, lb rfl, _, rfl⟩

theorem H62bw {A : Ar} (hA : A = Ar.std) {x1 : List D} {x2 : List D} {x3 : Int} {x4 : Int} {x5 : Int} {x6 : List D} {x7 : Int} {x8 : Int} {v17 : Bool} {v18 : Int} {v19 : List D} (h : H62b A x1 x2 x3 x4 x5 x6 x7 x8 = some (v17, v18, v19)) : ACall Try.prog 62 [(.d (.list 6 x1)), (.func 91 [] [(.iptr [(.list 6 x2)]), (.iptr [(.int .i64 x3)]), (.iptr [(.int .i64 x4)]), (.iptr [(.int .i64 x5)]), (.ptr 1 0)]), (.func 80 [] [])] [(.arr 6 x6), (.cells [(.mref 0 6 x7 x8)])] (.tuple [(.d (.bool v17)), (.d (.int .i64 v18))]) [(.arr 6 v19), (.cells [(.mref 0 6 x7 x8)])] := by
  unfold H62b at h
  refine ACall.enter hT (fn := Try.f62) Try.func62 rfl (by decide) (by simp [Try.f62]) rfl rfl rfl rfl (lb rfl) ?_
  refine AWp.seq ?_
  refine AWp.rg hT hA {} (by cbv) (lb rfl) ?_
  refine nT ?_
  refine AWp.seq ?_
  refine AWp.rg hT hA {} (by cbv) (lb rfl) ?_
  refine nT ?_
  refine AWp.seq ?_
  refine AWp.block ?_
  refine AWp.seq ?_
  refine AWp.region ?_
  obtain ⟨r10, e9, h⟩ := bindS h
  refine AOps.cc hT hA {} (by cbv) (lb rfl) (H24w hA e9) rfl (.inr rfl) rfl rfl rfl (lb rfl) rfl rfl ?_
  refine AOps.cd hT hA {} (by cbv) (lb rfl) ?_
  refine nT ?_
  rcases tf r10 with c11 | c11
  · replace h := cT c11 h
    refine AWp.cdF rfl (by first | rfl | simp only [c11, Bool.not_true, Bool.not_false, cond_true, cond_false]) ?_
    refine AWp.seq ?_
    refine AWp.region ?_
    obtain ⟨⟨r13, r14⟩, e12, h⟩ := bindS h
    refine AOps.cc hT hA {} (by (repeat (cbv; simp only [c11])); first | done | cbv) (lb rfl) (H91w hA e12) rfl (.inl rfl) rfl rfl rfl (lb rfl) rfl rfl ?_
    refine AOps.cd hT hA {} (by (repeat (cbv; simp only [c11])); first | done | cbv) (lb rfl) ?_
    refine nT ?_
    rcases tf r13 with c15 | c15
    · replace h := cT c15 h
      refine AWp.cdF rfl (by first | rfl | simp only [c11, c15, Bool.not_true, Bool.not_false, cond_true, cond_false]) ?_
      refine AWp.skip ?_
      refine nB ?_
      refine nT ?_
      refine AWp.seq ?_
      refine AWp.region ?_
      obtain ⟨_, e16, h⟩ := bindS h
      refine AOps.cc hT hA {} (by (repeat (cbv; simp only [c11, c15])); first | done | cbv) (lb rfl) (H80w hA e16) rfl (.inr rfl) rfl rfl rfl (lb rfl) rfl rfl ?_
      refine AOps.cd hT hA {} (by (repeat (cbv; simp only [c11, c15])); first | done | cbv) (lb rfl) ?_
      refine nT ?_
      refine AWp.ret ?_
      cases soI h
      exact ⟨rfl, rfl, rfl, lb rfl, _, rfl⟩
    · replace h := cF c15 h
      refine AWp.cdT rfl (by first | rfl | simp only [c11, c15, Bool.not_true, Bool.not_false, cond_true, cond_false]) ?_
      refine AWp.seq ?_
      refine AWp.rg hT hA {} (by (repeat (cbv; simp only [c11, c15])); first | done | cbv) (lb rfl) ?_
      refine nT ?_
      refine AWp.ret ?_
      refine rB ?_
      refine rT ?_
      cases soI h
      exact ⟨rfl, rfl, rfl, lb rfl, _, rfl⟩
  · replace h := cF c11 h
    refine AWp.cdT rfl (by first | rfl | simp only [c11, Bool.not_true, Bool.not_false, cond_true, cond_false]) ?_
    refine AWp.seq ?_
    refine AWp.rg hT hA {} (by (repeat (cbv; simp only [c11])); first | done | cbv) (lb rfl) ?_
    refine nT ?_
    refine AWp.ret ?_
    refine rB ?_
    refine rT ?_
    cases soI h
    exact ⟨rfl, rfl, rfl, lb rfl, _, rfl⟩

theorem H91aw {A : Ar} (hA : A = Ar.std) {x1 : List D} {x2 : Int} {x3 : Int} {x4 : Int} {x5 : List D} (h : H91a A x1 x2 x3 x4 x5 = some ()) : ACall Try.prog 91 [(.iptr [(.list 6 x1)]), (.iptr [(.int .i64 x2)]), (.iptr [(.int .i64 x3)]), (.iptr [(.int .i64 x4)]), (.ptr 0 0)] [(.cells [(.own 6 x5)])] (.d (.bool false)) [(.cells [(.own 6 x5)])] := by
  unfold H91a at h
  refine ACall.enter hT (fn := Try.f91) Try.func91 rfl (by decide) (by simp [Try.f91]) rfl rfl rfl rfl (lb rfl) ?_
  refine AWp.seq ?_
  refine AWp.rg hT hA {} (by cbv) (lb rfl) ?_
  refine nT ?_
  refine AWp.seq ?_
  refine AWp.seq ?_
  obtain ⟨v20, hvK21, h⟩ := bindS h
  refine AWp.cutN [1, 2, 3, 4, 35] [] 1 (lb rfl) (fun τ => τ = { env := [(1, (.iptr [(.int .i64 x2)])), (2, (.iptr [(.int .i64 x3)])), (3, (.iptr [(.int .i64 x4)])), (4, (.ptr 0 0)), (35, (.d (.bool v20)))], heap := [(.cells [(.own 6 x5)])], n := 48 }) ?_ ?_
  · skip
    refine AWp.regionDraw rfl (lb rfl) ?_
    obtain ⟨r7, e6, hvK21⟩ := bindS hvK21
    refine DOps.c0 hT hA {} rfl (by cbv) (H64w hA e6) rfl rfl (lb rfl) rfl rfl ?_
    rcases tf r7 with c8 | c8
    · replace hvK21 := cT c8 hvK21
      obtain ⟨⟨a9, a10, a11, a12, a13, a14⟩, e15, hvK21⟩ := bindS hvK21
      obtain ⟨f16, f17⟩ := gtI e15
      rcases tf (A.zeq a14 0) with c18 | c18
      · replace hvK21 := cT c18 hvK21
        refine DOps.cd hT hA {} rfl (by (repeat (cbv; simp only [c8, c18, f16, f17])); first | done | cbv) (by kernel_rfl) ?_
        cases soI hvK21
        exact oNi ⟨rfl, (by first | (cbv; done) | ((repeat (cbv; simp only [c8, c18])); first | done | cbv))⟩
      · replace hvK21 := cF c18 hvK21
        rcases tf (A.zlt a13 x3) with c19 | c19
        · replace hvK21 := cT c19 hvK21
          refine DOps.cd hT hA {} rfl (by (repeat (cbv; simp only [c8, c18, c19, f16, f17])); first | done | cbv) (by kernel_rfl) ?_
          cases soI hvK21
          exact oNi ⟨rfl, (by first | (cbv; done) | ((repeat (cbv; simp only [c8, c18, c19])); first | done | cbv))⟩
        · replace hvK21 := cF c19 hvK21
          refine DOps.cd hT hA {} rfl (by (repeat (cbv; simp only [c8, c18, c19, f16, f17])); first | done | cbv) (by kernel_rfl) ?_
          cases soI hvK21
          exact oNi ⟨rfl, (by first | (cbv; done) | ((repeat (cbv; simp only [c8, c18, c19])); first | done | cbv))⟩
    · replace hvK21 := cF c8 hvK21
      refine DOps.cd hT hA {} rfl (by (repeat (cbv; simp only [c8])); first | done | cbv) (by kernel_rfl) ?_
      cases soI hvK21
      exact oNi ⟨rfl, (by first | (cbv; done) | ((repeat (cbv; simp only [c8])); first | done | cbv))⟩
  · rintro _ rfl
    refine nT ?_
    rcases tf v20 with c22 | c22
    · replace h := cT c22 h
      refine AWp.cdT rfl (by first | rfl | simp only [c22, Bool.not_true, Bool.not_false, cond_true, cond_false]) ?_
      refine AWp.seq ?_
      refine AWp.rg hT hA {} (by (repeat (cbv; simp only [c22])); first | done | cbv) (lb rfl) ?_
      refine nT ?_
      refine AWp.ret ?_
      refine rT ?_
      cases soI h
      exact ⟨rfl, rfl, rfl, lb rfl, _, rfl⟩
    · replace h := cF c22 h
      refine AWp.cdF rfl (by first | rfl | simp only [c22, Bool.not_true, Bool.not_false, cond_true, cond_false]) ?_
      refine AWp.skip ?_
      refine nT ?_
      refine AWp.seq ?_
      obtain ⟨⟨a23, a24, a25, a26, a27, a28⟩, e29, h⟩ := bindS h
      obtain ⟨f30, f31⟩ := gtI e29
      cases h

theorem H62cw {A : Ar} (hA : A = Ar.std) {x1 : List D} {x2 : List D} {x3 : Int} {x4 : Int} {x5 : Int} {x6 : List D} {v11 : Int} (h : H62c A x1 x2 x3 x4 x5 x6 = some v11) : ACall Try.prog 62 [(.d (.list 6 x1)), (.func 91 [] [(.iptr [(.list 6 x2)]), (.iptr [(.int .i64 x3)]), (.iptr [(.int .i64 x4)]), (.iptr [(.int .i64 x5)]), (.ptr 0 0)]), (.func 80 [] [])] [(.cells [(.own 6 x6)])] (.tuple [(.d (.bool false)), (.d (.int .i64 v11))]) [(.cells [(.own 6 x6)])] := by
  unfold H62c at h
  refine ACall.enter hT (fn := Try.f62) Try.func62 rfl (by decide) (by simp [Try.f62]) rfl rfl rfl rfl (lb rfl) ?_
  refine AWp.seq ?_
  refine AWp.rg hT hA {} (by cbv) (lb rfl) ?_
  refine nT ?_
  refine AWp.seq ?_
  refine AWp.rg hT hA {} (by cbv) (lb rfl) ?_
  refine nT ?_
  refine AWp.seq ?_
  refine AWp.block ?_
  refine AWp.seq ?_
  refine AWp.region ?_
  obtain ⟨r8, e7, h⟩ := bindS h
  refine AOps.cc hT hA {} (by cbv) (lb rfl) (H24w hA e7) rfl (.inr rfl) rfl rfl rfl (lb rfl) rfl rfl ?_
  refine AOps.cd hT hA {} (by cbv) (lb rfl) ?_
  refine nT ?_
  rcases tf r8 with c9 | c9
  · replace h := cT c9 h
    refine AWp.cdF rfl (by first | rfl | simp only [c9, Bool.not_true, Bool.not_false, cond_true, cond_false]) ?_
    refine AWp.seq ?_
    refine AWp.region ?_
    obtain ⟨_, e10, h⟩ := bindS h
    refine AOps.cc hT hA {} (by (repeat (cbv; simp only [c9])); first | done | cbv) (lb rfl) (H91aw hA e10) rfl (.inl rfl) rfl rfl rfl (lb rfl) rfl rfl ?_
    refine AOps.cd hT hA {} (by (repeat (cbv; simp only [c9])); first | done | cbv) (lb rfl) ?_
    refine nT ?_
    refine AWp.cdT rfl (by first | rfl | simp only [c9, Bool.not_true, Bool.not_false, cond_true, cond_false]) ?_
    refine AWp.seq ?_
    refine AWp.rg hT hA {} (by (repeat (cbv; simp only [c9])); first | done | cbv) (lb rfl) ?_
    refine nT ?_
    refine AWp.ret ?_
    refine rB ?_
    refine rT ?_
    cases soI h
    exact ⟨rfl, rfl, rfl, lb rfl, _, rfl⟩
  · replace h := cF c9 h
    refine AWp.cdT rfl (by first | rfl | simp only [c9, Bool.not_true, Bool.not_false, cond_true, cond_false]) ?_
    refine AWp.seq ?_
    refine AWp.rg hT hA {} (by (repeat (cbv; simp only [c9])); first | done | cbv) (lb rfl) ?_
    refine nT ?_
    refine AWp.ret ?_
    refine rB ?_
    refine rT ?_
    cases soI h
    exact ⟨rfl, rfl, rfl, lb rfl, _, rfl⟩

theorem H41w {A : Ar} (hA : A = Ar.std) {x1 : List D} {x2 : Int} {x3 : Int} {x4 : Int} {v21 : List D} {v22 : Int} (h : H41 A x1 x2 x3 x4 = some (v21, v22)) : ACall Try.prog 41 [(.d (.list 6 x1)), (.d (.int .i64 x2)), (.d (.int .i64 x3)), (.d (.int .i64 x4))] [] (.tuple [(.d (.list 6 v21)), (.d (.int .i64 v22))]) [] := by
  unfold H41 at h
  refine ACall.enter hT (fn := Try.f41) Try.func41 rfl (by decide) (by simp [Try.f41]) rfl rfl rfl rfl (lb rfl) ?_
  refine AWp.seq ?_
  refine AWp.rg hT hA {} (by cbv) (lb rfl) ?_
  refine nT ?_
  refine AWp.freezeBox 4 [(.list 6 x1)] rfl rfl ?_
  refine AWp.freezeBox 5 [(.int .i64 x2)] rfl rfl ?_
  refine AWp.freezeBox 6 [(.int .i64 x3)] rfl rfl ?_
  refine AWp.freezeBox 7 [(.int .i64 x4)] rfl rfl ?_
  refine AWp.seq ?_
  refine AWp.region ?_
  obtain ⟨r6, e5, h⟩ := bindS h
  rcases tf (A.zlt 0 (A.len r6)) with c7 | c7
  · replace h := cT c7 h
    obtain ⟨_, e8, h⟩ := bindS h
    refine AOps.cc hT hA { tk := [14], esc := [10] } (by cbv) (lb rfl) (ACall.thaw (H90w hA e5) rfl rfl (neL hA c7) (ckI e8) (H := []) rfl (lenL hA)) rfl (.inl rfl) rfl rfl rfl (lb rfl) rfl rfl ?_
    refine AOps.cd hT hA { tk := [14], esc := [10] } (by (repeat (cbv; simp only [c7])); first | done | cbv) (lb rfl) ?_
    refine nT ?_
    refine AWp.seq ?_
    refine AWp.region ?_
    obtain ⟨⟨r10, r11, r12⟩, e9, h⟩ := bindS h
    refine AOps.cc hT hA {} (by (repeat (cbv; simp only [c7])); first | done | cbv) (lb rfl) (H62bw hA e9) rfl (.inl rfl) rfl rfl rfl (lb rfl) rfl rfl ?_
    refine AOps.cd hT hA {} (by (repeat (cbv; simp only [c7])); first | done | cbv) (lb rfl) ?_
    refine nT ?_
    refine AWp.seq ?_
    refine AWp.seq ?_
    refine AWp.rg hT hA {} (by (repeat (cbv; simp only [c7])); first | done | cbv) (lb rfl) ?_
    refine nT ?_
    rcases tf (A.zeq r11 0) with c13 | c13
    · replace h := cT c13 h
      refine AWp.cdF rfl (by first | rfl | simp only [c7, c13, Bool.not_true, Bool.not_false, cond_true, cond_false]) ?_
      refine AWp.skip ?_
      refine nT ?_
      refine AWp.seq ?_
      refine AWp.rg hT hA {} (by (repeat (cbv; simp only [c7, c13])); first | done | cbv) (lb rfl) ?_
      refine nT ?_
      obtain ⟨l14, e15, h⟩ := bindS h
      obtain ⟨f16, f17⟩ := fzI hA e15
      refine AWp.freeze (s := 8) (i := 0) rfl rfl f16 f17 ?_
      refine AWp.ret ?_
      cases soI h
      exact ⟨rfl, rfl, rfl, lb rfl, _, rfl⟩
    · replace h := cF c13 h
      refine AWp.cdT rfl (by first | rfl | simp only [c7, c13, Bool.not_true, Bool.not_false, cond_true, cond_false]) ?_
      refine AWp.seq ?_
      refine AWp.rg hT hA {} (by (repeat (cbv; simp only [c7, c13])); first | done | cbv) (lb rfl) ?_
      refine nT ?_
      refine AWp.ret ?_
      refine rT ?_
      cases soI h
      exact ⟨rfl, rfl, rfl, lb rfl, _, rfl⟩
  · replace h := cF c7 h
    refine AOps.cc hT hA { tk := [14], esc := [10] } (by cbv) (lb rfl) (H90w hA e5) rfl (.inl rfl) rfl rfl rfl (lb rfl) rfl rfl ?_
    refine AOps.cd hT hA { tk := [14], esc := [10] } (by (repeat (cbv; simp only [c7])); first | done | cbv) (lb rfl) ?_
    refine nT ?_
    refine AWp.seq ?_
    refine AWp.region ?_
    obtain ⟨r19, e18, h⟩ := bindS h
    refine AOps.cc hT hA {} (by (repeat (cbv; simp only [c7])); first | done | cbv) (lb rfl) (H62cw hA e18) rfl (.inl rfl) rfl rfl rfl (lb rfl) rfl rfl ?_
    refine AOps.cd hT hA {} (by (repeat (cbv; simp only [c7])); first | done | cbv) (lb rfl) ?_
    refine nT ?_
    refine AWp.seq ?_
    refine AWp.seq ?_
    refine AWp.rg hT hA {} (by (repeat (cbv; simp only [c7])); first | done | cbv) (lb rfl) ?_
    refine nT ?_
    rcases tf (A.zeq r19 0) with c20 | c20
    · replace h := cT c20 h
      refine AWp.cdF rfl (by first | rfl | simp only [c7, c20, Bool.not_true, Bool.not_false, cond_true, cond_false]) ?_
      refine AWp.skip ?_
      refine nT ?_
      refine AWp.seq ?_
      refine AWp.rg hT hA {} (by (repeat (cbv; simp only [c7, c20])); first | done | cbv) (lb rfl) ?_
      refine nT ?_
      refine AWp.ret ?_
      cases soI h
      exact ⟨rfl, rfl, rfl, lb rfl, _, rfl⟩
    · replace h := cF c20 h
      refine AWp.cdT rfl (by first | rfl | simp only [c7, c20, Bool.not_true, Bool.not_false, cond_true, cond_false]) ?_
      refine AWp.seq ?_
      refine AWp.rg hT hA {} (by (repeat (cbv; simp only [c7, c20])); first | done | cbv) (lb rfl) ?_
      refine nT ?_
      refine AWp.ret ?_
      refine rT ?_
      cases soI h
      exact ⟨rfl, rfl, rfl, lb rfl, _, rfl⟩

theorem H44w {A : Ar} (hA : A = Ar.std) {x1 : List D} {x2 : List D} {x3 : List D} {v17 : Bool} {v18 : Int} (h : H44 A x1 x2 x3 = some (v17, v18)) : ACall Try.prog 44 [(.d (.list 4 x1)), (.d (.list 6 x2)), (.d (.list 1 x3))] [] (.tuple [(.d (.bool v17)), (.d (.int .i64 v18))]) [] := by
  unfold H44 at h
  refine ACall.enter hT (fn := Try.f44) Try.func44 rfl (by decide) (by simp [Try.f44]) rfl rfl rfl rfl (lb rfl) ?_
  refine AWp.seq ?_
  refine AWp.rg hT hA {} (by cbv) (lb rfl) ?_
  refine nT ?_
  refine AWp.seq ?_
  refine AWp.region ?_
  obtain ⟨r5, e4, h⟩ := bindS h
  refine AOps.cc hT hA {} (by cbv) (lb rfl) (H75w hA e4) rfl (.inl rfl) rfl rfl rfl (lb rfl) rfl rfl ?_
  refine AOps.cd hT hA {} (by cbv) (lb rfl) ?_
  refine nT ?_
  refine AWp.seq ?_
  refine AWp.seq ?_
  refine AWp.rg hT hA {} (by cbv) (lb rfl) ?_
  refine nT ?_
  rcases tf (A.zeq r5 0) with c6 | c6
  · replace h := cT c6 h
    refine AWp.cdF rfl (by first | rfl | simp only [c6, Bool.not_true, Bool.not_false, cond_true, cond_false]) ?_
    refine AWp.skip ?_
    refine nT ?_
    refine AWp.seq ?_
    obtain ⟨v15, hvK16, h⟩ := bindS h
    refine AWp.cutN [6, 7] [] 0 (lb rfl) (fun τ => τ = { env := [(6, (.d (.bool v15))), (7, (.d (.int .i64 0)))], heap := [], n := 29 }) ?_ ?_
    · skip
      refine AWp.region ?_
      obtain ⟨r8, e7, hvK16⟩ := bindS hvK16
      refine AOps.cc hT hA {} (by (repeat (cbv; simp only [c6])); first | done | cbv) (lb rfl) (H93aw hA e7) rfl (.inl rfl) rfl rfl rfl (lb rfl) rfl rfl ?_
      rcases tf r8 with c9 | c9
      · replace hvK16 := cT c9 hvK16
        obtain ⟨r11, e10, hvK16⟩ := bindS hvK16
        refine AOps.cc hT hA {} (by (repeat (cbv; simp only [c6, c9])); first | done | cbv) (lb rfl) (H94aw hA e10) rfl (.inl rfl) rfl rfl rfl (lb rfl) rfl rfl ?_
        rcases tf r11 with c12 | c12
        · replace hvK16 := cT c12 hvK16
          obtain ⟨r14, e13, hvK16⟩ := bindS hvK16
          refine AOps.cc hT hA {} (by (repeat (cbv; simp only [c6, c9, c12])); first | done | cbv) (lb rfl) (H95aw hA e13) rfl (.inl rfl) rfl rfl rfl (lb rfl) rfl rfl ?_
          refine AOps.cd hT hA {} (by (repeat (cbv; simp only [c6, c9, c12])); first | done | cbv) (lb rfl) ?_
          cases soI hvK16
          exact oNi ⟨rfl, (by first | (cbv; done) | ((repeat (cbv; simp only [c6, c9, c12])); first | done | cbv))⟩
        · replace hvK16 := cF c12 hvK16
          refine AOps.cd hT hA {} (by (repeat (cbv; simp only [c6, c9, c12])); first | done | cbv) (lb rfl) ?_
          cases soI hvK16
          exact oNi ⟨rfl, (by first | (cbv; done) | ((repeat (cbv; simp only [c6, c9, c12])); first | done | cbv))⟩
      · replace hvK16 := cF c9 hvK16
        refine AOps.cd hT hA {} (by (repeat (cbv; simp only [c6, c9])); first | done | cbv) (lb rfl) ?_
        cases soI hvK16
        exact oNi ⟨rfl, (by first | (cbv; done) | ((repeat (cbv; simp only [c6, c9])); first | done | cbv))⟩
    · rintro _ rfl
      refine nT ?_
      refine AWp.ret ?_
      cases soI h
      exact ⟨rfl, rfl, rfl, lb rfl, _, rfl⟩
  · replace h := cF c6 h
    refine AWp.cdT rfl (by first | rfl | simp only [c6, Bool.not_true, Bool.not_false, cond_true, cond_false]) ?_
    refine AWp.seq ?_
    refine AWp.rg hT hA {} (by (repeat (cbv; simp only [c6])); first | done | cbv) (lb rfl) ?_
    refine nT ?_
    refine AWp.ret ?_
    refine rT ?_
    cases soI h
    exact ⟨rfl, rfl, rfl, lb rfl, _, rfl⟩

theorem H96w {A : Ar} (hA : A = Ar.std) {x1 : Int} {v4 : Bool} (h : H96 A x1 = some v4) : ACall Try.prog 96 [(.iptr [(.int .i64 x1)])] [] (.d (.bool v4)) [] := by
  unfold H96 at h
  refine ACall.enter hT (fn := Try.f96) Try.func96 rfl (by decide) (by simp [Try.f96]) rfl rfl rfl rfl (lb rfl) ?_
  refine AWp.seq ?_
  refine AWp.rg hT hA {} (by cbv) (lb rfl) ?_
  refine nT ?_
  refine AWp.seq ?_
  refine AWp.region ?_
  obtain ⟨r3, e2, h⟩ := bindS h
  refine AOps.cc hT hA { tk := [3] } (by cbv) (lb rfl) (H77w hA e2) rfl (.inl rfl) rfl rfl rfl (lb rfl) rfl rfl ?_
  refine AOps.cd hT hA { tk := [3] } (by cbv) (lb rfl) ?_
  refine nT ?_
  refine AWp.ret ?_
  cases soI h
  exact ⟨rfl, rfl, rfl, lb rfl, _, rfl⟩

theorem H98w {A : Ar} (hA : A = Ar.std) {x1 : Int} {x2 : Int} {x3 : Int} {x4 : Int} {x5 : Int} {x6 : Int} {x7 : Int} {v8 : Bool} (h : H98 A x1 x2 x3 x4 x5 x6 x7 = some v8) : ACall Try.prog 98 [(.d (.agg [(.int .i64 x1), (.int .i64 x2), (.int .i64 x3), (.int .i64 x4), (.int .i64 x5), (.int .i64 x6)])), (.iptr [(.int .i64 x7)])] [] (.d (.bool v8)) [] := by
  unfold H98 at h
  refine ACall.enter hT (fn := Try.f98) Try.func98 rfl (by decide) (by simp [Try.f98]) rfl rfl rfl rfl (lb rfl) ?_
  refine AWp.seq ?_
  refine AWp.rg hT hA {} (by cbv) (lb rfl) ?_
  refine nT ?_
  refine AWp.seq ?_
  refine AWp.rg hT hA { tk := [7] } (by cbv) (lb rfl) ?_
  refine nT ?_
  refine AWp.ret ?_
  cases soI h
  exact ⟨rfl, rfl, rfl, lb rfl, _, rfl⟩

theorem H88bw {A : Ar} (hA : A = Ar.std) {x1 : List D} {x2 : Int} {v45 : List D} (h : H88b A x1 x2 = some v45) : ACall Try.prog 88 [(.d (.list 6 x1)), (.func 98 [] [(.iptr [(.int .i64 x2)])])] [] (.own 6 v45) [] := by
  unfold H88b at h
  refine ACall.enter hT (fn := Try.f88) Try.func88 rfl (by decide) (by simp [Try.f88]) rfl rfl rfl rfl (lb rfl) ?_
  refine AWp.seq ?_
  refine AWp.rg hT hA {} (by cbv) (lb rfl) ?_
  refine nT ?_
  refine AWp.seq ?_
  refine AWp.rg hT hA {} (by cbv) (lb rfl) ?_
  refine nT ?_
  refine AWp.seq ?_
  refine AWp.seq ?_
  refine AWp.rg hT hA {} (by cbv) (lb rfl) ?_
  refine nT ?_
  refine AWp.block ?_
  obtain ⟨xK44, hxK44, K44, hK44, hkK44⟩ := bindK h
  refine AWp.cutX 0 [5] [] 0 (lb rfl) (fun τ => ∃ v43, K44 v43 = some v45 ∧ τ = { env := [(5, (.own 6 v43))], heap := [], n := 23 }) ?_ ?_
  · skip
    refine AWp.iter hxK44 [1, 5, 8, 9, 10] [] 0 (lb rfl) (fun (v22, v23) => { env := [(1, (.func 98 [] [(.iptr [(.int .i64 x2)])])), (5, (.own 6 v22)), (8, (.d (.list 6 x1))), (9, (.d (.int .i64 (A.len x1)))), (10, (.d (.int .i64 v23)))], heap := [], n := 23 }) ⟨rfl, (by cbv)⟩ ?_
    rintro ⟨v22, v23⟩ eK44 hsK44
    dsimp only [H88bL0] at hsK44
    refine AWp.seq ?_
    refine AWp.rg hT hA {} (by cbv) (lb rfl) ?_
    refine nT ?_
    refine AWp.seq ?_
    rcases tf (A.zlt v23 (A.len x1)) with c24 | c24
    · replace hsK44 := cT c24 hsK44
      refine AWp.cdT rfl (by first | rfl | simp only [c24, Bool.not_true, Bool.not_false, cond_true, cond_false]) ?_
      refine AWp.skip ?_
      refine nT ?_
      refine AWp.seq ?_
      refine AWp.block ?_
      refine AWp.seq ?_
      obtain ⟨⟨a25, a26, a27, a28, a29, a30⟩, e31, hsK44⟩ := bindS hsK44
      obtain ⟨f32, f33⟩ := gtI e31
      refine AWp.rg hT hA { tk := [13] } (by (repeat (cbv; simp only [c24, f32, f33])); first | done | cbv) (lb rfl) ?_
      refine nT ?_
      refine AWp.seq ?_
      refine AWp.region ?_
      obtain ⟨r35, e34, hsK44⟩ := bindS hsK44
      refine AOps.cc hT hA {} (by (repeat (cbv; simp only [c24])); first | done | cbv) (lb rfl) (H98w hA e34) rfl (.inl rfl) rfl rfl rfl (lb rfl) rfl rfl ?_
      refine AOps.cd hT hA {} (by (repeat (cbv; simp only [c24])); first | done | cbv) (lb rfl) ?_
      refine nT ?_
      obtain ⟨v41, hvK42, hsK44⟩ := bindS hsK44
      refine AWp.cutN [1, 5, 8, 9, 10] [] 0 (lb rfl) (fun τ => τ = { env := [(1, (.func 98 [] [(.iptr [(.int .i64 x2)])])), (5, (.own 6 v41)), (8, (.d (.list 6 x1))), (9, (.d (.int .i64 (A.len x1)))), (10, (.d (.int .i64 v23)))], heap := [], n := 23 }) ?_ ?_
      · skip
        rcases tf r35 with c36 | c36
        · replace hvK42 := cT c36 hvK42
          refine AWp.cdT rfl (by first | rfl | simp only [c24, c36, Bool.not_true, Bool.not_false, cond_true, cond_false]) ?_
          obtain ⟨l37, e38, hvK42⟩ := bindS hvK42
          obtain ⟨f39, f40⟩ := apI e38
          refine AWp.rg hT hA { tk := [5, 20] } (by (repeat (cbv; simp only [c24, c36, f39, f40])); first | done | cbv) (lb rfl) ?_
          cases soI hvK42
          exact oNi ⟨rfl, (by first | (cbv; done) | ((repeat (cbv; simp only [c24, c36])); first | done | cbv))⟩
        · replace hvK42 := cF c36 hvK42
          refine AWp.cdF rfl (by first | rfl | simp only [c24, c36, Bool.not_true, Bool.not_false, cond_true, cond_false]) ?_
          refine AWp.skip ?_
          cases soI hvK42
          exact oNi ⟨rfl, (by first | (cbv; done) | ((repeat (cbv; simp only [c24, c36])); first | done | cbv))⟩
      · rintro _ rfl
        refine nB ?_
        refine nT ?_
        refine AWp.rg hT hA {} (by cbv) (lb rfl) ?_
        exact nT ⟨_, (soI hsK44).symm, rfl, (by cbv)⟩
    · replace hsK44 := cF c24 hsK44
      refine AWp.cdF rfl (by first | rfl | simp only [c24, Bool.not_true, Bool.not_false, cond_true, cond_false]) ?_
      refine AWp.exit ?_
      refine xT ?_
      refine xT ?_
      refine exL hsK44 fun hx => ?_
      subst hx
      exact oxI ⟨rfl, _, hkK44, (by first | (cbv; done) | ((repeat (cbv; simp only [c24])); first | done | cbv))⟩
  · rintro _ ⟨v43, hkK44, rfl⟩
    have h := (hK44 _ hkK44)
    refine xB ?_
    refine nT ?_
    refine AWp.seq ?_
    refine AWp.rg hT hA { tk := [5, 22] } (by cbv) (lb rfl) ?_
    refine nT ?_
    refine AWp.ret ?_
    cases soI h
    exact ⟨rfl, rfl, rfl, lb rfl, _, rfl⟩

theorem H97w {A : Ar} (hA : A = Ar.std) {x1 : List D} {x2 : Int} {v103 : List D} (h : H97 A x1 x2 = some v103) : ACall Try.prog 97 [(.iptr [(.list 6 x1)]), (.iptr [(.int .i64 x2)])] [] (.d (.list 6 v103)) [] := by
  unfold H97 at h
  refine ACall.enter hT (fn := Try.f97) Try.func97 rfl (by decide) (by simp [Try.f97]) rfl rfl rfl rfl (lb rfl) ?_
  refine AWp.seq ?_
  refine AWp.rg hT hA {} (by cbv) (lb rfl) ?_
  refine nT ?_
  refine AWp.seq ?_
  refine AWp.region ?_
  obtain ⟨r4, e3, h⟩ := bindS h
  rcases tf (A.zlt 0 (A.len r4)) with c5 | c5
  · replace h := cT c5 h
    obtain ⟨_, e6, h⟩ := bindS h
    refine AOps.cc hT hA { tk := [8] } (by cbv) (lb rfl) (ACall.thaw (H88bw hA e3) rfl rfl (neL hA c5) (ckI e6) (H := []) rfl (lenL hA)) rfl (.inl rfl) rfl rfl rfl (lb rfl) rfl rfl ?_
    refine AOps.cd hT hA { tk := [8] } (by (repeat (cbv; simp only [c5])); first | done | cbv) (lb rfl) ?_
    refine nT ?_
    refine AWp.seq ?_
    refine AWp.seq ?_
    refine AWp.rg hT hA {} (by (repeat (cbv; simp only [c5])); first | done | cbv) (lb rfl) ?_
    refine nT ?_
    refine AWp.block ?_
    obtain ⟨xK74, hxK74, K74, hK74, hkK74⟩ := bindK h
    refine AWp.cutX 0 [3] [] 1 (lb rfl) (fun τ => ∃ v73, K74 v73 = some v103 ∧ τ = { env := [(3, (.mref 0 6 0 (A.len r4)))], heap := [(.arr 6 v73)], n := 31 }) ?_ ?_
    · skip
      refine AWp.iter hxK74 [1, 3, 10, 11] [] 1 (lb rfl) (fun (v39, v40) => { env := [(1, (.iptr [(.int .i64 x2)])), (3, (.mref 0 6 0 (A.len r4))), (10, (.d (.int .i64 (A.len r4)))), (11, (.d (.int .i64 v39)))], heap := [(.arr 6 v40)], n := 31 }) ⟨rfl, (by first | (cbv; done) | ((repeat (cbv; simp only [c5])); first | done | cbv))⟩ ?_
      rintro ⟨v39, v40⟩ eK74 hsK74
      dsimp only [H97L0] at hsK74
      refine AWp.seq ?_
      refine AWp.rg hT hA {} (by cbv) (lb rfl) ?_
      refine nT ?_
      refine AWp.seq ?_
      rcases tf (A.zlt v39 (A.len r4)) with c41 | c41
      · replace hsK74 := cT c41 hsK74
        refine AWp.cdT rfl (by first | rfl | simp only [c41, Bool.not_true, Bool.not_false, cond_true, cond_false]) ?_
        refine AWp.skip ?_
        refine nT ?_
        refine AWp.seq ?_
        refine AWp.block ?_
        refine AWp.seq ?_
        refine AWp.rg hT hA {} (by (repeat (cbv; simp only [c41])); first | done | cbv) (lb rfl) ?_
        refine nT ?_
        refine AWp.seq ?_
        obtain ⟨_, e42, hsK74⟩ := bindS hsK74
        have f44 := ckI e42
        obtain ⟨_, e43, hsK74⟩ := bindS hsK74
        have f45 := ckI e43
        refine AWp.rg hT hA {} (by (repeat (cbv; simp only [c41, f44, f45])); first | done | cbv) (lb rfl) ?_
        refine nT ?_
        refine AWp.seq ?_
        obtain ⟨⟨a46, a47, a48, a49, a50, a51⟩, e52, hsK74⟩ := bindS hsK74
        have f53 := gcI e52
        refine AWp.rd hT hA {} rfl (by (repeat (cbv; simp only [c41, f53])); first | done | cbv) (by kernel_rfl) (lb rfl) ?_
        refine nT ?_
        obtain ⟨v71, hvK72, hsK74⟩ := bindS hsK74
        refine AWp.cutN [1, 3, 10, 11] [] 1 (lb rfl) (fun τ => τ = { env := [(1, (.iptr [(.int .i64 x2)])), (3, (.mref 0 6 0 (A.len r4))), (10, (.d (.int .i64 (A.len r4)))), (11, (.d (.int .i64 v39)))], heap := [(.arr 6 v71)], n := 31 }) ?_ ?_
        · skip
          rcases tf (A.zlt x2 a51) with c54 | c54
          · replace hvK72 := cT c54 hvK72
            refine AWp.cdT rfl (by first | rfl | simp only [c41, c54, Bool.not_true, Bool.not_false, cond_true, cond_false]) ?_
            obtain ⟨⟨a55, a56, a57, a58, a59, a60⟩, e61, hvK72⟩ := bindS hvK72
            have f62 := gcI e61
            obtain ⟨⟨a63, a64, a65, a66, a67, a68⟩, e69, hvK72⟩ := bindS hvK72
            have f70 := gcI e69
            refine AWp.rg hT hA {} (by (repeat (cbv; simp only [c41, c54, f62, f70])); first | done | cbv) (lb rfl) ?_
            cases soI hvK72
            exact oNi ⟨rfl, (by first | (cbv; done) | ((repeat (cbv; simp only [c41, c54])); first | done | cbv))⟩
          · replace hvK72 := cF c54 hvK72
            refine AWp.cdF rfl (by first | rfl | simp only [c41, c54, Bool.not_true, Bool.not_false, cond_true, cond_false]) ?_
            refine AWp.skip ?_
            cases soI hvK72
            exact oNi ⟨rfl, (by first | (cbv; done) | ((repeat (cbv; simp only [c41, c54])); first | done | cbv))⟩
        · rintro _ rfl
          refine nB ?_
          refine nT ?_
          refine AWp.rg hT hA {} (by cbv) (lb rfl) ?_
          exact nT ⟨_, (soI hsK74).symm, rfl, (by cbv)⟩
      · replace hsK74 := cF c41 hsK74
        refine AWp.cdF rfl (by first | rfl | simp only [c41, Bool.not_true, Bool.not_false, cond_true, cond_false]) ?_
        refine AWp.exit ?_
        refine xT ?_
        refine xT ?_
        refine exL hsK74 fun hx => ?_
        subst hx
        exact oxI ⟨rfl, _, hkK74, (by first | (cbv; done) | ((repeat (cbv; simp only [c41])); first | done | cbv))⟩
    · rintro _ ⟨v73, hkK74, rfl⟩
      have h := (hK74 _ hkK74)
      refine xB ?_
      refine nT ?_
      refine AWp.seq ?_
      refine AWp.rg hT hA { tk := [3, 30] } (by cbv) (lb rfl) ?_
      refine nT ?_
      obtain ⟨l75, e76, h⟩ := bindS h
      obtain ⟨f77, f78⟩ := fzI hA e76
      refine AWp.freeze (s := 2) (i := 0) rfl rfl f77 f78 ?_
      refine AWp.ret ?_
      cases soI h
      exact ⟨rfl, rfl, rfl, lb rfl, _, rfl⟩
  · replace h := cF c5 h
    refine AOps.cc hT hA { tk := [8] } (by cbv) (lb rfl) (H88bw hA e3) rfl (.inl rfl) rfl rfl rfl (lb rfl) rfl rfl ?_
    refine AOps.cd hT hA { tk := [8] } (by (repeat (cbv; simp only [c5])); first | done | cbv) (lb rfl) ?_
    refine nT ?_
    refine AWp.seq ?_
    refine AWp.seq ?_
    refine AWp.rg hT hA {} (by (repeat (cbv; simp only [c5])); first | done | cbv) (lb rfl) ?_
    refine nT ?_
    refine AWp.block ?_
    obtain ⟨xK102, hxK102, K102, hK102, hkK102⟩ := bindK h
    refine AWp.cutX 0 [3] [] 0 (lb rfl) (fun τ => K102 () = some v103 ∧ τ = { env := [(3, (.own 6 r4))], heap := [], n := 31 }) ?_ ?_
    · skip
      refine AWp.iter hxK102 [1, 3, 10, 11] [] 0 (lb rfl) (fun v90 => { env := [(1, (.iptr [(.int .i64 x2)])), (3, (.own 6 r4)), (10, (.d (.int .i64 (A.len r4)))), (11, (.d (.int .i64 v90)))], heap := [], n := 31 }) ⟨rfl, (by first | (cbv; done) | ((repeat (cbv; simp only [c5])); first | done | cbv))⟩ ?_
      rintro v90 eK102 hsK102
      dsimp only [H97L1] at hsK102
      refine AWp.seq ?_
      refine AWp.rg hT hA {} (by cbv) (lb rfl) ?_
      refine nT ?_
      refine AWp.seq ?_
      rcases tf (A.zlt v90 (A.len r4)) with c91 | c91
      · replace hsK102 := cT c91 hsK102
        refine AWp.cdT rfl (by first | rfl | simp only [c91, Bool.not_true, Bool.not_false, cond_true, cond_false]) ?_
        refine AWp.skip ?_
        refine nT ?_
        refine AWp.seq ?_
        refine AWp.block ?_
        refine AWp.seq ?_
        refine AWp.rg hT hA {} (by (repeat (cbv; simp only [c91])); first | done | cbv) (lb rfl) ?_
        refine nT ?_
        refine AWp.seq ?_
        obtain ⟨⟨a92, a93, a94, a95, a96, a97⟩, e98, hsK102⟩ := bindS hsK102
        obtain ⟨f99, f100⟩ := gtI e98
        refine AWp.rg hT hA {} (by (repeat (cbv; simp only [c91, f99, f100])); first | done | cbv) (lb rfl) ?_
        refine nT ?_
        refine AWp.seq ?_
        refine AWp.rd hT hA {} rfl (by (repeat (cbv; simp only [c91])); first | done | cbv) (by kernel_rfl) (lb rfl) ?_
        refine nT ?_
        rcases tf (A.zlt x2 a97) with c101 | c101
        · replace hsK102 := cT c101 hsK102
          refine AWp.cdT rfl (by first | rfl | simp only [c91, c101, Bool.not_true, Bool.not_false, cond_true, cond_false]) ?_
          cases hsK102
        · replace hsK102 := cF c101 hsK102
          refine AWp.cdF rfl (by first | rfl | simp only [c91, c101, Bool.not_true, Bool.not_false, cond_true, cond_false]) ?_
          refine AWp.skip ?_
          refine nB ?_
          refine nT ?_
          refine AWp.rg hT hA {} (by (repeat (cbv; simp only [c91, c101])); first | done | cbv) (lb rfl) ?_
          exact nT ⟨_, (soI hsK102).symm, rfl, (by first | (cbv; done) | ((repeat (cbv; simp only [c91, c101])); first | done | cbv))⟩
      · replace hsK102 := cF c91 hsK102
        refine AWp.cdF rfl (by first | rfl | simp only [c91, Bool.not_true, Bool.not_false, cond_true, cond_false]) ?_
        refine AWp.exit ?_
        refine xT ?_
        refine xT ?_
        refine exL hsK102 fun hx => ?_
        subst hx
        exact oxI ⟨rfl, hkK102, (by first | (cbv; done) | ((repeat (cbv; simp only [c91])); first | done | cbv))⟩
    · rintro _ ⟨hkK102, rfl⟩
      have h := (hK102 _ hkK102)
      refine xB ?_
      refine nT ?_
      refine AWp.seq ?_
      refine AWp.rg hT hA { tk := [3, 30] } (by cbv) (lb rfl) ?_
      refine nT ?_
      refine AWp.softR [2] ?_
      refine AWp.ret ?_
      cases soI h
      exact ⟨rfl, rfl, rfl, lb rfl, _, rfl⟩

theorem H85aw {A : Ar} (hA : A = Ar.std) {x1 : List D} {x2 : Int} {x3 : List D} {x4 : Int} {v13 : List D} {v14 : Int} (h : H85a A x1 x2 x3 x4 = some (v13, v14)) : ACall Try.prog 85 [(.d (.list 6 x1)), (.func 96 [] [(.iptr [(.int .i64 x2)])]), (.func 97 [] [(.iptr [(.list 6 x3)]), (.iptr [(.int .i64 x4)])])] [] (.tuple [(.d (.list 6 v13)), (.d (.int .i64 v14))]) [] := by
  unfold H85a at h
  refine ACall.enter hT (fn := Try.f85) Try.func85 rfl (by decide) (by simp [Try.f85]) rfl rfl rfl rfl (lb rfl) ?_
  refine AWp.seq ?_
  refine AWp.rg hT hA {} (by cbv) (lb rfl) ?_
  refine nT ?_
  refine AWp.seq ?_
  refine AWp.rg hT hA {} (by cbv) (lb rfl) ?_
  refine nT ?_
  refine AWp.seq ?_
  refine AWp.block ?_
  refine AWp.seq ?_
  refine AWp.region ?_
  obtain ⟨r6, e5, h⟩ := bindS h
  refine AOps.cc hT hA {} (by cbv) (lb rfl) (H24w hA e5) rfl (.inl rfl) rfl rfl rfl (lb rfl) rfl rfl ?_
  refine AOps.cd hT hA {} (by cbv) (lb rfl) ?_
  refine nT ?_
  rcases tf r6 with c7 | c7
  · replace h := cT c7 h
    refine AWp.cdF rfl (by first | rfl | simp only [c7, Bool.not_true, Bool.not_false, cond_true, cond_false]) ?_
    refine AWp.seq ?_
    refine AWp.region ?_
    obtain ⟨r9, e8, h⟩ := bindS h
    refine AOps.cc hT hA {} (by (repeat (cbv; simp only [c7])); first | done | cbv) (lb rfl) (H96w hA e8) rfl (.inl rfl) rfl rfl rfl (lb rfl) rfl rfl ?_
    refine AOps.cd hT hA {} (by (repeat (cbv; simp only [c7])); first | done | cbv) (lb rfl) ?_
    refine nT ?_
    rcases tf r9 with c10 | c10
    · replace h := cT c10 h
      refine AWp.cdF rfl (by first | rfl | simp only [c7, c10, Bool.not_true, Bool.not_false, cond_true, cond_false]) ?_
      refine AWp.skip ?_
      refine nB ?_
      refine nT ?_
      refine AWp.seq ?_
      refine AWp.region ?_
      obtain ⟨r12, e11, h⟩ := bindS h
      refine AOps.cc hT hA {} (by (repeat (cbv; simp only [c7, c10])); first | done | cbv) (lb rfl) (H97w hA e11) rfl (.inl rfl) rfl rfl rfl (lb rfl) rfl rfl ?_
      refine AOps.cd hT hA {} (by (repeat (cbv; simp only [c7, c10])); first | done | cbv) (lb rfl) ?_
      refine nT ?_
      refine AWp.ret ?_
      cases soI h
      exact ⟨rfl, rfl, rfl, lb rfl, _, rfl⟩
    · replace h := cF c10 h
      refine AWp.cdT rfl (by first | rfl | simp only [c7, c10, Bool.not_true, Bool.not_false, cond_true, cond_false]) ?_
      refine AWp.seq ?_
      refine AWp.rg hT hA {} (by (repeat (cbv; simp only [c7, c10])); first | done | cbv) (lb rfl) ?_
      refine nT ?_
      refine AWp.ret ?_
      refine rB ?_
      refine rT ?_
      cases soI h
      exact ⟨rfl, rfl, rfl, lb rfl, _, rfl⟩
  · replace h := cF c7 h
    refine AWp.cdT rfl (by first | rfl | simp only [c7, Bool.not_true, Bool.not_false, cond_true, cond_false]) ?_
    refine AWp.seq ?_
    refine AWp.rg hT hA {} (by (repeat (cbv; simp only [c7])); first | done | cbv) (lb rfl) ?_
    refine nT ?_
    refine AWp.ret ?_
    refine rB ?_
    refine rT ?_
    cases soI h
    exact ⟨rfl, rfl, rfl, lb rfl, _, rfl⟩

theorem H45w {A : Ar} (hA : A = Ar.std) {x1 : List D} {x2 : Int} {v6 : List D} {v7 : Int} (h : H45 A x1 x2 = some (v6, v7)) : ACall Try.prog 45 [(.d (.list 6 x1)), (.d (.int .i64 x2))] [] (.tuple [(.d (.list 6 v6)), (.d (.int .i64 v7))]) [] := by
  unfold H45 at h
  refine ACall.enter hT (fn := Try.f45) Try.func45 rfl (by decide) (by simp [Try.f45]) rfl rfl rfl rfl (lb rfl) ?_
  refine AWp.seq ?_
  refine AWp.rg hT hA {} (by cbv) (lb rfl) ?_
  refine nT ?_
  refine AWp.freezeBox 2 [(.list 6 x1)] rfl rfl ?_
  refine AWp.freezeBox 3 [(.int .i64 x2)] rfl rfl ?_
  refine AWp.seq ?_
  refine AWp.region ?_
  obtain ⟨⟨r4, r5⟩, e3, h⟩ := bindS h
  refine AOps.cc hT hA {} (by cbv) (lb rfl) (H85aw hA e3) rfl (.inl rfl) rfl rfl rfl (lb rfl) rfl rfl ?_
  refine AOps.cd hT hA {} (by cbv) (lb rfl) ?_
  refine nT ?_
  refine AWp.ret ?_
  cases soI h
  exact ⟨rfl, rfl, rfl, lb rfl, _, rfl⟩

theorem H99w {A : Ar} (hA : A = Ar.std) {x1 : List D} {x2 : List D} {v76 : Bool} (h : H99 A x1 x2 = some v76) : ACall Try.prog 99 [(.d (.list 6 x1)), (.d (.list 1 x2))] [] (.d (.bool v76)) [] := by
  unfold H99 at h
  refine ACall.enter hT (fn := Try.f99) Try.func99 rfl (by decide) (by simp [Try.f99]) rfl rfl rfl rfl (lb rfl) ?_
  refine AWp.seq ?_
  refine AWp.rg hT hA {} (by cbv) (lb rfl) ?_
  refine nT ?_
  refine AWp.seq ?_
  refine AWp.rg hT hA {} (by cbv) (lb rfl) ?_
  refine nT ?_
  refine AWp.seq ?_
  refine AWp.seq ?_
  refine AWp.rg hT hA {} (by cbv) (lb rfl) ?_
  refine nT ?_
  refine AWp.block ?_
  obtain ⟨xK37, hxK37, K37, hK37, hkK37⟩ := bindK h
  refine AWp.cutX 0 [0, 5] [] 1 (lb rfl) (fun τ => ∃ v35, K37 (.inl v35) = some v76 ∧ τ = { env := [(0, (.d (.list 6 x1))), (5, (.map 0))], heap := [(.map false [.int .i64] v35)], n := 46 }) ?_ ?_
  · skip
    refine AWp.iter hxK37 [0, 5, 11, 12, 13] [] 1 (lb rfl) (fun (v18, v19) => { env := [(0, (.d (.list 6 x1))), (5, (.map 0)), (11, (.d (.list 1 x2))), (12, (.d (.int .i64 (A.len x2)))), (13, (.d (.int .i64 v18)))], heap := [(.map false [.int .i64] v19)], n := 46 }) ⟨rfl, (by cbv)⟩ ?_
    rintro ⟨v18, v19⟩ eK37 hsK37
    dsimp only [H99L0] at hsK37
    refine AWp.seq ?_
    refine AWp.rg hT hA {} (by cbv) (lb rfl) ?_
    refine nT ?_
    refine AWp.seq ?_
    rcases tf (A.zlt v18 (A.len x2)) with c20 | c20
    · replace hsK37 := cT c20 hsK37
      refine AWp.cdT rfl (by first | rfl | simp only [c20, Bool.not_true, Bool.not_false, cond_true, cond_false]) ?_
      refine AWp.skip ?_
      refine nT ?_
      refine AWp.seq ?_
      refine AWp.block ?_
      refine AWp.seq ?_
      obtain ⟨a21, e22, hsK37⟩ := bindS hsK37
      obtain ⟨f23, f24⟩ := gtI e22
      refine AWp.rg hT hA {} (by (repeat (cbv; simp only [c20, f23, f24])); first | done | cbv) (lb rfl) ?_
      refine nT ?_
      refine AWp.seq ?_
      refine AWp.seq ?_
      obtain ⟨v32, hvK33, hsK37⟩ := bindS hsK37
      refine AWp.cutN [0, 5, 7, 11, 12, 13, 25] [] 1 (lb rfl) (fun τ => τ = { env := [(0, (.d (.list 6 x1))), (5, (.map 0)), (7, (.d (.int .i64 a21))), (11, (.d (.list 1 x2))), (12, (.d (.int .i64 (A.len x2)))), (13, (.d (.int .i64 v18))), (25, (.d (.bool v32)))], heap := [(.map false [.int .i64] v19)], n := 46 }) ?_ ?_
      · skip
        refine AWp.region ?_
        obtain ⟨r26, e25, hvK33⟩ := bindS hvK33
        refine AOps.cc hT hA {} (by (repeat (cbv; simp only [c20])); first | done | cbv) (lb rfl) (H64w hA e25) rfl (.inr rfl) rfl rfl rfl (lb rfl) rfl rfl ?_
        rcases tf r26 with c27 | c27
        · replace hvK33 := cT c27 hvK33
          obtain ⟨o31, e29, hvK33⟩ := bindS hvK33
          rcases o31 with _ | a28
          · have f30 := lkN e29
            refine AOps.cd hT hA {} (by (repeat (cbv; simp only [c20, c27, f30])); first | done | cbv) (lb rfl) ?_
            cases soI hvK33
            exact oNi ⟨rfl, (by first | (cbv; done) | ((repeat (cbv; simp only [c20, c27])); first | done | cbv))⟩
          · have f30 := lkS e29
            refine AOps.cd hT hA {} (by (repeat (cbv; simp only [c20, c27, f30])); first | done | cbv) (lb rfl) ?_
            cases soI hvK33
            exact oNi ⟨rfl, (by first | (cbv; done) | ((repeat (cbv; simp only [c20, c27])); first | done | cbv))⟩
        · replace hvK33 := cF c27 hvK33
          refine AOps.cd hT hA {} (by (repeat (cbv; simp only [c20, c27])); first | done | cbv) (lb rfl) ?_
          cases soI hvK33
          exact oNi ⟨rfl, (by first | (cbv; done) | ((repeat (cbv; simp only [c20, c27])); first | done | cbv))⟩
      · rintro _ rfl
        refine nT ?_
        rcases tf v32 with c34 | c34
        · replace hsK37 := cT c34 hsK37
          refine AWp.cdT rfl (by first | rfl | simp only [c34, Bool.not_true, Bool.not_false, cond_true, cond_false]) ?_
          refine AWp.seq ?_
          refine AWp.rg hT hA {} (by (repeat (cbv; simp only [c34])); first | done | cbv) (lb rfl) ?_
          refine nT ?_
          refine AWp.ret ?_
          refine rT ?_
          refine rB ?_
          refine rT ?_
          refine rT ?_
          refine exL hsK37 fun hx => ?_
          subst hx
          refine oxR ?_
          replace hkK37 := (eR (hK37 _ hkK37))
          refine rB ?_
          refine rT ?_
          cases soI hkK37
          exact ⟨rfl, rfl, rfl, lb rfl, _, rfl⟩
        · replace hsK37 := cF c34 hsK37
          refine AWp.cdF rfl (by first | rfl | simp only [c34, Bool.not_true, Bool.not_false, cond_true, cond_false]) ?_
          refine AWp.skip ?_
          refine nT ?_
          refine AWp.rg hT hA {} (by (repeat (cbv; simp only [c34])); first | done | cbv) (lb rfl) ?_
          refine nB ?_
          refine nT ?_
          refine AWp.rg hT hA {} (by (repeat (cbv; simp only [c34])); first | done | cbv) (lb rfl) ?_
          exact nT ⟨_, (soI hsK37).symm, rfl, (by first | (cbv; done) | ((repeat (cbv; simp only [c34])); first | done | cbv))⟩
    · replace hsK37 := cF c20 hsK37
      refine AWp.cdF rfl (by first | rfl | simp only [c20, Bool.not_true, Bool.not_false, cond_true, cond_false]) ?_
      refine AWp.exit ?_
      refine xT ?_
      refine xT ?_
      refine exL hsK37 fun hx => ?_
      subst hx
      exact oxI ⟨rfl, _, hkK37, (by first | (cbv; done) | ((repeat (cbv; simp only [c20])); first | done | cbv))⟩
  · rintro _ ⟨v35, hkK37, rfl⟩
    have h := (eL (hK37 _ hkK37))
    refine xB ?_
    refine nT ?_
    refine AWp.seq ?_
    refine AWp.seq ?_
    refine AWp.rg hT hA {} (by cbv) (lb rfl) ?_
    refine nT ?_
    refine AWp.block ?_
    obtain ⟨xK75, hxK75, K75, hK75, hkK75⟩ := bindK h
    refine AWp.cutX 2 [] [] 1 (lb rfl) (fun τ => K75 (.inl ()) = some v76 ∧ τ = { env := [], heap := [(.map false [.int .i64] v35)], n := 46 }) ?_ ?_
    · skip
      refine AWp.iter hxK75 [5, 29, 30, 31] [] 1 (lb rfl) (fun v56 => { env := [(5, (.map 0)), (29, (.d (.list 6 x1))), (30, (.d (.int .i64 (A.len x1)))), (31, (.d (.int .i64 v56)))], heap := [(.map false [.int .i64] v35)], n := 46 }) ⟨rfl, (by cbv)⟩ ?_
      rintro v56 eK75 hsK75
      dsimp only [H99L1] at hsK75
      refine AWp.seq ?_
      refine AWp.rg hT hA {} (by cbv) (lb rfl) ?_
      refine nT ?_
      refine AWp.seq ?_
      rcases tf (A.zlt v56 (A.len x1)) with c57 | c57
      · replace hsK75 := cT c57 hsK75
        refine AWp.cdT rfl (by first | rfl | simp only [c57, Bool.not_true, Bool.not_false, cond_true, cond_false]) ?_
        refine AWp.skip ?_
        refine nT ?_
        refine AWp.seq ?_
        refine AWp.block ?_
        refine AWp.seq ?_
        obtain ⟨⟨a58, a59, a60, a61, a62, a63⟩, e64, hsK75⟩ := bindS hsK75
        obtain ⟨f65, f66⟩ := gtI e64
        refine AWp.rg hT hA { tk := [35] } (by (repeat (cbv; simp only [c57, f65, f66])); first | done | cbv) (lb rfl) ?_
        refine nT ?_
        refine AWp.seq ?_
        obtain ⟨v72, hvK73, hsK75⟩ := bindS hsK75
        refine AWp.cutN [5, 29, 30, 31, 44] [] 1 (lb rfl) (fun τ => τ = { env := [(5, (.map 0)), (29, (.d (.list 6 x1))), (30, (.d (.int .i64 (A.len x1)))), (31, (.d (.int .i64 v56))), (44, (.d (.bool v72)))], heap := [(.map false [.int .i64] v35)], n := 46 }) ?_ ?_
        · skip
          rcases tf (A.zlt 0 a63) with c67 | c67
          · replace hvK73 := cT c67 hvK73
            obtain ⟨o71, e69, hvK73⟩ := bindS hvK73
            rcases o71 with _ | a68
            · have f70 := lkN e69
              refine AWp.rg hT hA {} (by (repeat (cbv; simp only [c57, c67, f70])); first | done | cbv) (lb rfl) ?_
              cases soI hvK73
              exact oNi ⟨rfl, (by first | (cbv; done) | ((repeat (cbv; simp only [c57, c67])); first | done | cbv))⟩
            · have f70 := lkS e69
              refine AWp.rg hT hA {} (by (repeat (cbv; simp only [c57, c67, f70])); first | done | cbv) (lb rfl) ?_
              cases soI hvK73
              exact oNi ⟨rfl, (by first | (cbv; done) | ((repeat (cbv; simp only [c57, c67])); first | done | cbv))⟩
          · replace hvK73 := cF c67 hvK73
            refine AWp.rg hT hA {} (by (repeat (cbv; simp only [c57, c67])); first | done | cbv) (lb rfl) ?_
            cases soI hvK73
            exact oNi ⟨rfl, (by first | (cbv; done) | ((repeat (cbv; simp only [c57, c67])); first | done | cbv))⟩
        · rintro _ rfl
          refine nT ?_
          rcases tf v72 with c74 | c74
          · replace hsK75 := cT c74 hsK75
            refine AWp.cdT rfl (by first | rfl | simp only [c74, Bool.not_true, Bool.not_false, cond_true, cond_false]) ?_
            refine AWp.seq ?_
            refine AWp.rg hT hA {} (by (repeat (cbv; simp only [c74])); first | done | cbv) (lb rfl) ?_
            refine nT ?_
            refine AWp.ret ?_
            refine rB ?_
            refine rT ?_
            refine rT ?_
            refine exL hsK75 fun hx => ?_
            subst hx
            refine oxR ?_
            replace hkK75 := (eR (hK75 _ hkK75))
            refine rB ?_
            refine rT ?_
            cases soI hkK75
            exact ⟨rfl, rfl, rfl, lb rfl, _, rfl⟩
          · replace hsK75 := cF c74 hsK75
            refine AWp.cdF rfl (by first | rfl | simp only [c74, Bool.not_true, Bool.not_false, cond_true, cond_false]) ?_
            refine AWp.skip ?_
            refine nB ?_
            refine nT ?_
            refine AWp.rg hT hA {} (by (repeat (cbv; simp only [c74])); first | done | cbv) (lb rfl) ?_
            exact nT ⟨_, (soI hsK75).symm, rfl, (by first | (cbv; done) | ((repeat (cbv; simp only [c74])); first | done | cbv))⟩
      · replace hsK75 := cF c57 hsK75
        refine AWp.cdF rfl (by first | rfl | simp only [c57, Bool.not_true, Bool.not_false, cond_true, cond_false]) ?_
        refine AWp.exit ?_
        refine xT ?_
        refine xT ?_
        refine exL hsK75 fun hx => ?_
        subst hx
        exact oxI ⟨rfl, hkK75, (by first | (cbv; done) | ((repeat (cbv; simp only [c57])); first | done | cbv))⟩
    · rintro _ ⟨hkK75, rfl⟩
      have h := (eL (hK75 _ hkK75))
      refine xB ?_
      refine nT ?_
      refine AWp.seq ?_
      refine AWp.rg hT hA {} (by cbv) (lb rfl) ?_
      refine nT ?_
      refine AWp.ret ?_
      cases soI h
      exact ⟨rfl, rfl, rfl, lb rfl, _, rfl⟩

theorem H100w {A : Ar} (hA : A = Ar.std) {x1 : List D} {x2 : List D} {v135 : Bool} (h : H100 A x1 x2 = some v135) : ACall Try.prog 100 [(.d (.list 6 x1)), (.d (.list 1 x2)), (.func 66 [] [])] [] (.d (.bool v135)) [] := by
  unfold H100 at h
  refine ACall.enter hT (fn := Try.f100) Try.func100 rfl (by decide) (by simp [Try.f100]) rfl rfl rfl rfl (lb rfl) ?_
  refine AWp.seq ?_
  refine AWp.rg hT hA {} (by cbv) (lb rfl) ?_
  refine nT ?_
  refine AWp.seq ?_
  refine AWp.seq ?_
  refine AWp.rg hT hA {} (by cbv) (lb rfl) ?_
  refine nT ?_
  refine AWp.block ?_
  obtain ⟨xK134, hxK134, K134, hK134, hkK134⟩ := bindK h
  refine AWp.cutX 0 [] [] 0 (lb rfl) (fun τ => K134 (.inl ()) = some v135 ∧ τ = { env := [], heap := [], n := 38 }) ?_ ?_
  · skip
    refine AWp.iter hxK134 [0, 1, 2, 11, 12, 13] [] 0 (lb rfl) (fun v68 => { env := [(0, (.d (.list 6 x1))), (1, (.d (.list 1 x2))), (2, (.func 66 [] [])), (11, (.d (.list 1 x2))), (12, (.d (.int .i64 (A.len x2)))), (13, (.d (.int .i64 v68)))], heap := [], n := 38 }) ⟨rfl, (by cbv)⟩ ?_
    rintro v68 eK134 hsK134
    dsimp only [H100L1] at hsK134
    refine AWp.seq ?_
    refine AWp.rg hT hA {} (by cbv) (lb rfl) ?_
    refine nT ?_
    refine AWp.seq ?_
    rcases tf (A.zlt v68 (A.len x2)) with c69 | c69
    · replace hsK134 := cT c69 hsK134
      refine AWp.cdT rfl (by first | rfl | simp only [c69, Bool.not_true, Bool.not_false, cond_true, cond_false]) ?_
      refine AWp.skip ?_
      refine nT ?_
      refine AWp.seq ?_
      refine AWp.block ?_
      refine AWp.seq ?_
      obtain ⟨a70, e71, hsK134⟩ := bindS hsK134
      obtain ⟨f72, f73⟩ := gtI e71
      refine AWp.rg hT hA {} (by (repeat (cbv; simp only [c69, f72, f73])); first | done | cbv) (lb rfl) ?_
      refine nT ?_
      refine AWp.seq ?_
      obtain ⟨l74, e75, hsK134⟩ := bindS hsK134
      obtain ⟨f76, f77, f78, f79⟩ := slI e75
      refine AWp.rg hT hA {} (by (repeat (cbv; simp only [c69, f76, f77, f78, f79])); first | done | cbv) (lb rfl) ?_
      refine nT ?_
      refine AWp.block ?_
      obtain ⟨xK133, hxK133, K133, hK133, hkK133⟩ := bindK hsK134
      refine AWp.cutX 2 [0, 1, 2, 11, 12, 13] [] 0 (lb rfl) (fun τ => K133 (.inl ()) = some eK134 ∧ τ = { env := [(0, (.d (.list 6 x1))), (1, (.d (.list 1 x2))), (2, (.func 66 [] [])), (11, (.d (.list 1 x2))), (12, (.d (.int .i64 (A.len x2)))), (13, (.d (.int .i64 v68)))], heap := [], n := 38 }) ?_ ?_
      · skip
        refine AWp.iter hxK133 [0, 1, 2, 8, 11, 12, 13, 20, 21, 22] [] 0 (lb rfl) (fun v106 => { env := [(0, (.d (.list 6 x1))), (1, (.d (.list 1 x2))), (2, (.func 66 [] [])), (8, (.d (.int .i64 a70))), (11, (.d (.list 1 x2))), (12, (.d (.int .i64 (A.len x2)))), (13, (.d (.int .i64 v68))), (20, (.d (.list 1 l74))), (21, (.d (.int .i64 (A.len l74)))), (22, (.d (.int .i64 v106)))], heap := [], n := 38 }) ⟨rfl, (by first | (cbv; done) | ((repeat (cbv; simp only [c69])); first | done | cbv))⟩ ?_
        rintro v106 eK133 hsK133
        dsimp only [H100L0] at hsK133
        refine AWp.seq ?_
        refine AWp.rg hT hA {} (by cbv) (lb rfl) ?_
        refine nT ?_
        refine AWp.seq ?_
        rcases tf (A.zlt v106 (A.len l74)) with c107 | c107
        · replace hsK133 := cT c107 hsK133
          refine AWp.cdT rfl (by first | rfl | simp only [c107, Bool.not_true, Bool.not_false, cond_true, cond_false]) ?_
          refine AWp.skip ?_
          refine nT ?_
          refine AWp.seq ?_
          refine AWp.block ?_
          refine AWp.seq ?_
          obtain ⟨a108, e109, hsK133⟩ := bindS hsK133
          obtain ⟨f110, f111⟩ := gtI e109
          refine AWp.rg hT hA {} (by (repeat (cbv; simp only [c107, f110, f111])); first | done | cbv) (lb rfl) ?_
          refine nT ?_
          refine AWp.seq ?_
          refine AWp.regionDraw rfl (lb rfl) ?_
          obtain ⟨⟨a112, a113, a114, a115, a116, a117⟩, e118, hsK133⟩ := bindS hsK133
          obtain ⟨f119, f120⟩ := gtI e118
          obtain ⟨⟨a121, a122, a123, a124, a125, a126⟩, e127, hsK133⟩ := bindS hsK133
          obtain ⟨f128, f129⟩ := gtI e127
          obtain ⟨r131, e130, hsK133⟩ := bindS hsK133
          refine DOps.c0 hT hA {} rfl (by (repeat (cbv; simp only [c107, f119, f120, f128, f129])); first | done | cbv) (H66w hA e130) rfl rfl (lb rfl) rfl rfl ?_
          refine DOps.cd hT hA {} rfl (by (repeat (cbv; simp only [c107, f119, f120, f128, f129])); first | done | cbv) (by kernel_rfl) ?_
          refine nT ?_
          rcases tf r131 with c132 | c132
          · replace hsK133 := cT c132 hsK133
            refine AWp.cdT rfl (by first | rfl | simp only [c107, c132, Bool.not_true, Bool.not_false, cond_true, cond_false]) ?_
            refine AWp.seq ?_
            refine AWp.rg hT hA {} (by (repeat (cbv; simp only [c107, c132])); first | done | cbv) (lb rfl) ?_
            refine nT ?_
            refine AWp.ret ?_
            refine rB ?_
            refine rT ?_
            refine rT ?_
            refine exL hsK133 fun hx => ?_
            subst hx
            refine oxR ?_
            replace hkK133 := (eR (hK133 _ hkK133))
            refine rB ?_
            refine rB ?_
            refine rT ?_
            refine rT ?_
            refine exL hkK133 fun hx => ?_
            subst hx
            refine oxR ?_
            replace hkK134 := (eR (hK134 _ hkK134))
            refine rB ?_
            refine rT ?_
            cases soI hkK134
            exact ⟨rfl, rfl, rfl, lb rfl, _, rfl⟩
          · replace hsK133 := cF c132 hsK133
            refine AWp.cdF rfl (by first | rfl | simp only [c107, c132, Bool.not_true, Bool.not_false, cond_true, cond_false]) ?_
            refine AWp.skip ?_
            refine nB ?_
            refine nT ?_
            refine AWp.rg hT hA {} (by (repeat (cbv; simp only [c107, c132])); first | done | cbv) (lb rfl) ?_
            exact nT ⟨_, (soI hsK133).symm, rfl, (by first | (cbv; done) | ((repeat (cbv; simp only [c107, c132])); first | done | cbv))⟩
        · replace hsK133 := cF c107 hsK133
          refine AWp.cdF rfl (by first | rfl | simp only [c107, Bool.not_true, Bool.not_false, cond_true, cond_false]) ?_
          refine AWp.exit ?_
          refine xT ?_
          refine xT ?_
          refine exL hsK133 fun hx => ?_
          subst hx
          exact oxI ⟨rfl, hkK133, (by first | (cbv; done) | ((repeat (cbv; simp only [c107])); first | done | cbv))⟩
      · rintro _ ⟨hkK133, rfl⟩
        have hsK134 := (eL (hK133 _ hkK133))
        refine xB ?_
        refine nB ?_
        refine nT ?_
        refine AWp.rg hT hA {} (by cbv) (lb rfl) ?_
        exact nT ⟨_, (soI hsK134).symm, rfl, (by cbv)⟩
    · replace hsK134 := cF c69 hsK134
      refine AWp.cdF rfl (by first | rfl | simp only [c69, Bool.not_true, Bool.not_false, cond_true, cond_false]) ?_
      refine AWp.exit ?_
      refine xT ?_
      refine xT ?_
      refine exL hsK134 fun hx => ?_
      subst hx
      exact oxI ⟨rfl, hkK134, (by first | (cbv; done) | ((repeat (cbv; simp only [c69])); first | done | cbv))⟩
  · rintro _ ⟨hkK134, rfl⟩
    have h := (eL (hK134 _ hkK134))
    refine xB ?_
    refine nT ?_
    refine AWp.seq ?_
    refine AWp.rg hT hA {} (by cbv) (lb rfl) ?_
    refine nT ?_
    refine AWp.ret ?_
    cases soI h
    exact ⟨rfl, rfl, rfl, lb rfl, _, rfl⟩

theorem H101w {A : Ar} (hA : A = Ar.std) {x1 : List D} {x2 : List D} {x3 : List D} {v46 : Bool} (h : H101 A x1 x2 x3 = some v46) : ACall Try.prog 101 [(.d (.list 4 x1)), (.d (.list 6 x2)), (.d (.list 1 x3))] [] (.d (.bool v46)) [] := by
  unfold H101 at h
  refine ACall.enter hT (fn := Try.f101) Try.func101 rfl (by decide) (by simp [Try.f101]) rfl rfl rfl rfl (lb rfl) ?_
  refine AWp.seq ?_
  refine AWp.rg hT hA {} (by cbv) (lb rfl) ?_
  refine nT ?_
  refine AWp.seq ?_
  refine AWp.rg hT hA {} (by cbv) (lb rfl) ?_
  refine nT ?_
  refine AWp.seq ?_
  refine AWp.rg hT hA {} (by cbv) (lb rfl) ?_
  refine nT ?_
  refine AWp.seq ?_
  refine AWp.seq ?_
  refine AWp.rg hT hA {} (by cbv) (lb rfl) ?_
  refine nT ?_
  refine AWp.block ?_
  obtain ⟨xK45, hxK45, K45, hK45, hkK45⟩ := bindK h
  refine AWp.cutX 0 [] [] 0 (lb rfl) (fun τ => K45 (.inl ()) = some v46 ∧ τ = { env := [], heap := [], n := 30 }) ?_ ?_
  · skip
    refine AWp.iter hxK45 [0, 1, 7, 11, 12, 13] [] 0 (lb rfl) (fun (v23, v24, v25) => { env := [(0, (.d (.list 4 x1))), (1, (.d (.list 6 x2))), (7, (.lbox [(.d (.int .i64 v23)), (.d (.int .i64 v24))])), (11, (.d (.list 1 x3))), (12, (.d (.int .i64 (A.len x3)))), (13, (.d (.int .i64 v25)))], heap := [], n := 30 }) ⟨rfl, (by cbv)⟩ ?_
    rintro ⟨v23, v24, v25⟩ eK45 hsK45
    dsimp only [H101L0] at hsK45
    refine AWp.seq ?_
    refine AWp.rg hT hA {} (by cbv) (lb rfl) ?_
    refine nT ?_
    refine AWp.seq ?_
    rcases tf (A.zlt v25 (A.len x3)) with c26 | c26
    · replace hsK45 := cT c26 hsK45
      refine AWp.cdT rfl (by first | rfl | simp only [c26, Bool.not_true, Bool.not_false, cond_true, cond_false]) ?_
      refine AWp.skip ?_
      refine nT ?_
      refine AWp.seq ?_
      refine AWp.block ?_
      refine AWp.seq ?_
      obtain ⟨a27, e28, hsK45⟩ := bindS hsK45
      obtain ⟨f29, f30⟩ := gtI e28
      refine AWp.rg hT hA {} (by (repeat (cbv; simp only [c26, f29, f30])); first | done | cbv) (lb rfl) ?_
      refine nT ?_
      refine AWp.seq ?_
      refine AWp.regionDraw rfl (lb rfl) ?_
      obtain ⟨⟨a31, a32, a33, a34, a35, a36⟩, e37, hsK45⟩ := bindS hsK45
      obtain ⟨f38, f39⟩ := gtI e37
      obtain ⟨⟨r41, r42, r43⟩, e40, hsK45⟩ := bindS hsK45
      refine DOps.c0 hT hA { tk := [25] } rfl (by (repeat (cbv; simp only [c26, f38, f39])); first | done | cbv) (H78aw hA e40) rfl rfl (lb rfl) rfl rfl ?_
      refine DOps.cd hT hA { tk := [25] } rfl (by (repeat (cbv; simp only [c26, f38, f39])); first | done | cbv) (by kernel_rfl) ?_
      refine nT ?_
      refine AWp.seq ?_
      refine AWp.rg hT hA {} (by (repeat (cbv; simp only [c26])); first | done | cbv) (lb rfl) ?_
      refine nT ?_
      rcases tf r43 with c44 | c44
      · replace hsK45 := cT c44 hsK45
        refine AWp.cdF rfl (by first | rfl | simp only [c26, c44, Bool.not_true, Bool.not_false, cond_true, cond_false]) ?_
        refine AWp.skip ?_
        refine nB ?_
        refine nT ?_
        refine AWp.rg hT hA {} (by (repeat (cbv; simp only [c26, c44])); first | done | cbv) (lb rfl) ?_
        exact nT ⟨_, (soI hsK45).symm, rfl, (by first | (cbv; done) | ((repeat (cbv; simp only [c26, c44])); first | done | cbv))⟩
      · replace hsK45 := cF c44 hsK45
        refine AWp.cdT rfl (by first | rfl | simp only [c26, c44, Bool.not_true, Bool.not_false, cond_true, cond_false]) ?_
        refine AWp.seq ?_
        refine AWp.rg hT hA {} (by (repeat (cbv; simp only [c26, c44])); first | done | cbv) (lb rfl) ?_
        refine nT ?_
        refine AWp.ret ?_
        refine rB ?_
        refine rT ?_
        refine rT ?_
        refine exL hsK45 fun hx => ?_
        subst hx
        refine oxR ?_
        replace hkK45 := (eR (hK45 _ hkK45))
        refine rB ?_
        refine rT ?_
        cases soI hkK45
        exact ⟨rfl, rfl, rfl, lb rfl, _, rfl⟩
    · replace hsK45 := cF c26 hsK45
      refine AWp.cdF rfl (by first | rfl | simp only [c26, Bool.not_true, Bool.not_false, cond_true, cond_false]) ?_
      refine AWp.exit ?_
      refine xT ?_
      refine xT ?_
      refine exL hsK45 fun hx => ?_
      subst hx
      exact oxI ⟨rfl, hkK45, (by first | (cbv; done) | ((repeat (cbv; simp only [c26])); first | done | cbv))⟩
  · rintro _ ⟨hkK45, rfl⟩
    have h := (eL (hK45 _ hkK45))
    refine xB ?_
    refine nT ?_
    refine AWp.seq ?_
    refine AWp.rg hT hA {} (by cbv) (lb rfl) ?_
    refine nT ?_
    refine AWp.ret ?_
    cases soI h
    exact ⟨rfl, rfl, rfl, lb rfl, _, rfl⟩

theorem H46w {A : Ar} (hA : A = Ar.std) {x1 : List D} {x2 : List D} {x3 : List D} {v17 : Bool} {v18 : Int} (h : H46 A x1 x2 x3 = some (v17, v18)) : ACall Try.prog 46 [(.d (.list 4 x1)), (.d (.list 6 x2)), (.d (.list 1 x3))] [] (.tuple [(.d (.bool v17)), (.d (.int .i64 v18))]) [] := by
  unfold H46 at h
  refine ACall.enter hT (fn := Try.f46) Try.func46 rfl (by decide) (by simp [Try.f46]) rfl rfl rfl rfl (lb rfl) ?_
  refine AWp.seq ?_
  refine AWp.rg hT hA {} (by cbv) (lb rfl) ?_
  refine nT ?_
  refine AWp.seq ?_
  refine AWp.seq ?_
  refine AWp.region ?_
  obtain ⟨r5, e4, h⟩ := bindS h
  refine AOps.cc hT hA {} (by cbv) (lb rfl) (H71w hA e4) rfl (.inl rfl) rfl rfl rfl (lb rfl) rfl rfl ?_
  refine AOps.cd hT hA {} (by cbv) (lb rfl) ?_
  refine nT ?_
  refine AWp.seq ?_
  refine AWp.rg hT hA {} (by cbv) (lb rfl) ?_
  refine nT ?_
  rcases tf (A.zeq r5 0) with c6 | c6
  · replace h := cT c6 h
    refine AWp.cdF rfl (by first | rfl | simp only [c6, Bool.not_true, Bool.not_false, cond_true, cond_false]) ?_
    refine AWp.skip ?_
    refine nT ?_
    refine AWp.seq ?_
    obtain ⟨v15, hvK16, h⟩ := bindS h
    refine AWp.cutN [6, 7] [] 0 (lb rfl) (fun τ => τ = { env := [(6, (.d (.bool v15))), (7, (.d (.int .i64 0)))], heap := [], n := 29 }) ?_ ?_
    · skip
      refine AWp.region ?_
      obtain ⟨r8, e7, hvK16⟩ := bindS hvK16
      refine AOps.cc hT hA {} (by (repeat (cbv; simp only [c6])); first | done | cbv) (lb rfl) (H99w hA e7) rfl (.inl rfl) rfl rfl rfl (lb rfl) rfl rfl ?_
      rcases tf r8 with c9 | c9
      · replace hvK16 := cT c9 hvK16
        obtain ⟨r11, e10, hvK16⟩ := bindS hvK16
        refine AOps.cc hT hA {} (by (repeat (cbv; simp only [c6, c9])); first | done | cbv) (lb rfl) (H100w hA e10) rfl (.inl rfl) rfl rfl rfl (lb rfl) rfl rfl ?_
        rcases tf r11 with c12 | c12
        · replace hvK16 := cT c12 hvK16
          obtain ⟨r14, e13, hvK16⟩ := bindS hvK16
          refine AOps.cc hT hA {} (by (repeat (cbv; simp only [c6, c9, c12])); first | done | cbv) (lb rfl) (H101w hA e13) rfl (.inl rfl) rfl rfl rfl (lb rfl) rfl rfl ?_
          refine AOps.cd hT hA {} (by (repeat (cbv; simp only [c6, c9, c12])); first | done | cbv) (lb rfl) ?_
          cases soI hvK16
          exact oNi ⟨rfl, (by first | (cbv; done) | ((repeat (cbv; simp only [c6, c9, c12])); first | done | cbv))⟩
        · replace hvK16 := cF c12 hvK16
          refine AOps.cd hT hA {} (by (repeat (cbv; simp only [c6, c9, c12])); first | done | cbv) (lb rfl) ?_
          cases soI hvK16
          exact oNi ⟨rfl, (by first | (cbv; done) | ((repeat (cbv; simp only [c6, c9, c12])); first | done | cbv))⟩
      · replace hvK16 := cF c9 hvK16
        refine AOps.cd hT hA {} (by (repeat (cbv; simp only [c6, c9])); first | done | cbv) (lb rfl) ?_
        cases soI hvK16
        exact oNi ⟨rfl, (by first | (cbv; done) | ((repeat (cbv; simp only [c6, c9])); first | done | cbv))⟩
    · rintro _ rfl
      refine nT ?_
      refine AWp.ret ?_
      cases soI h
      exact ⟨rfl, rfl, rfl, lb rfl, _, rfl⟩
  · replace h := cF c6 h
    refine AWp.cdT rfl (by first | rfl | simp only [c6, Bool.not_true, Bool.not_false, cond_true, cond_false]) ?_
    refine AWp.seq ?_
    refine AWp.rg hT hA {} (by (repeat (cbv; simp only [c6])); first | done | cbv) (lb rfl) ?_
    refine nT ?_
    refine AWp.ret ?_
    refine rT ?_
    cases soI h
    exact ⟨rfl, rfl, rfl, lb rfl, _, rfl⟩

theorem H9w {A : Ar} (hA : A = Ar.std) {x1 : List D} {x2 : List D} {x3 : List D} {v146 : Bool} (h : H9 A x1 x2 x3 = some v146) : ACall Try.prog 9 [(.d (.list 4 x1)), (.d (.list 6 x2)), (.d (.agg x3))] [] (.d (.bool v146)) [] := by
  unfold H9 at h
  refine ACall.enter hT (fn := Try.f9) Try.func9 rfl (by decide) (by simp [Try.f9]) rfl rfl rfl rfl (lb rfl) ?_
  refine AWp.seq ?_
  obtain ⟨_, e5, h⟩ := bindS h
  have f4 := ckI e5
  refine AWp.rg hT hA { arr := [5] } (by (repeat (cbv; simp only [f4])); first | done | cbv) (lb rfl) ?_
  refine nT ?_
  refine AWp.seq ?_
  refine AWp.seq ?_
  obtain ⟨v11, hvK12, h⟩ := bindS h
  refine AWp.cutN [0, 1, 5, 32] [] 1 (lb rfl) (fun τ => τ = { env := [(0, (.d (.list 4 x1))), (1, (.d (.list 6 x2))), (5, (.ptr 0 0)), (32, (.d (.bool v11)))], heap := [(.arr 1 x3)], n := 217 }) ?_ ?_
  · skip
    refine AWp.region ?_
    obtain ⟨r7, e6, hvK12⟩ := bindS hvK12
    refine AOps.cc hT hA {} (by cbv) (lb rfl) (H17w hA e6) rfl (.inr rfl) rfl rfl rfl (lb rfl) rfl rfl ?_
    rcases tf r7 with c8 | c8
    · replace hvK12 := cT c8 hvK12
      refine AOps.cd hT hA {} (by (repeat (cbv; simp only [c8])); first | done | cbv) (lb rfl) ?_
      cases soI hvK12
      exact oNi ⟨rfl, (by first | (cbv; done) | ((repeat (cbv; simp only [c8])); first | done | cbv))⟩
    · replace hvK12 := cF c8 hvK12
      obtain ⟨r10, e9, hvK12⟩ := bindS hvK12
      refine AOps.cc hT hA {} (by (repeat (cbv; simp only [c8])); first | done | cbv) (lb rfl) (H18w hA e9) rfl (.inr rfl) rfl rfl rfl (lb rfl) rfl rfl ?_
      refine AOps.cd hT hA {} (by (repeat (cbv; simp only [c8])); first | done | cbv) (lb rfl) ?_
      cases soI hvK12
      exact oNi ⟨rfl, (by first | (cbv; done) | ((repeat (cbv; simp only [c8])); first | done | cbv))⟩
  · rintro _ rfl
    refine nT ?_
    rcases tf v11 with c13 | c13
    · replace h := cT c13 h
      refine AWp.cdT rfl (by first | rfl | simp only [c13, Bool.not_true, Bool.not_false, cond_true, cond_false]) ?_
      refine AWp.seq ?_
      refine AWp.region ?_
      obtain ⟨r15, e14, h⟩ := bindS h
      refine AOps.cc hT hA { tk := [33] } (by (repeat (cbv; simp only [c13])); first | done | cbv) (lb rfl) (H19w hA e14) rfl (.inr rfl) rfl rfl rfl (lb rfl) rfl rfl ?_
      refine AOps.cd hT hA { tk := [33] } (by (repeat (cbv; simp only [c13])); first | done | cbv) (lb rfl) ?_
      refine nT ?_
      refine AWp.ret ?_
      refine rT ?_
      cases soI h
      exact ⟨rfl, rfl, rfl, lb rfl, _, rfl⟩
    · replace h := cF c13 h
      refine AWp.cdF rfl (by first | rfl | simp only [c13, Bool.not_true, Bool.not_false, cond_true, cond_false]) ?_
      refine AWp.skip ?_
      refine nT ?_
      refine AWp.seq ?_
      refine AWp.region ?_
      obtain ⟨⟨r17, r18⟩, e16, h⟩ := bindS h
      refine AOps.cc hT hA {} (by (repeat (cbv; simp only [c13])); first | done | cbv) (lb rfl) (H21w hA e16) rfl (.inr rfl) rfl rfl rfl (lb rfl) rfl rfl ?_
      refine AOps.cd hT hA {} (by (repeat (cbv; simp only [c13])); first | done | cbv) (lb rfl) ?_
      refine nT ?_
      refine AWp.seq ?_
      refine AWp.seq ?_
      obtain ⟨v20, hvK21, h⟩ := bindS h
      refine AWp.cutN [0, 1, 5, 45] [] 1 (lb rfl) (fun τ => τ = { env := [(0, (.d (.list 4 x1))), (1, (.d (.list 6 x2))), (5, (.ptr 0 0)), (45, (.d (.bool v20)))], heap := [(.arr 1 x3)], n := 217 }) ?_ ?_
      · skip
        rcases tf (A.zeq r18 0) with c19 | c19
        · replace hvK21 := cT c19 hvK21
          refine AWp.rg hT hA {} (by (repeat (cbv; simp only [c13, c19])); first | done | cbv) (lb rfl) ?_
          cases soI hvK21
          exact oNi ⟨rfl, (by first | (cbv; done) | ((repeat (cbv; simp only [c13, c19])); first | done | cbv))⟩
        · replace hvK21 := cF c19 hvK21
          refine AWp.rg hT hA {} (by (repeat (cbv; simp only [c13, c19])); first | done | cbv) (lb rfl) ?_
          cases soI hvK21
          exact oNi ⟨rfl, (by first | (cbv; done) | ((repeat (cbv; simp only [c13, c19])); first | done | cbv))⟩
      · rintro _ rfl
        refine nT ?_
        rcases tf v20 with c22 | c22
        · replace h := cT c22 h
          refine AWp.cdT rfl (by first | rfl | simp only [c22, Bool.not_true, Bool.not_false, cond_true, cond_false]) ?_
          refine AWp.seq ?_
          refine AWp.region ?_
          obtain ⟨r24, e23, h⟩ := bindS h
          refine AOps.cc hT hA { tk := [46] } (by (repeat (cbv; simp only [c22])); first | done | cbv) (lb rfl) (H19w hA e23) rfl (.inr rfl) rfl rfl rfl (lb rfl) rfl rfl ?_
          refine AOps.cd hT hA { tk := [46] } (by (repeat (cbv; simp only [c22])); first | done | cbv) (lb rfl) ?_
          refine nT ?_
          refine AWp.ret ?_
          refine rT ?_
          cases soI h
          exact ⟨rfl, rfl, rfl, lb rfl, _, rfl⟩
        · replace h := cF c22 h
          refine AWp.cdF rfl (by first | rfl | simp only [c22, Bool.not_true, Bool.not_false, cond_true, cond_false]) ?_
          refine AWp.skip ?_
          refine nT ?_
          refine AWp.seq ?_
          refine AWp.region ?_
          obtain ⟨⟨r26, r27⟩, e25, h⟩ := bindS h
          refine AOps.cc hT hA {} (by (repeat (cbv; simp only [c22])); first | done | cbv) (lb rfl) (H26w hA e25) rfl (.inr rfl) rfl rfl rfl (lb rfl) rfl rfl ?_
          refine AOps.cd hT hA {} (by (repeat (cbv; simp only [c22])); first | done | cbv) (lb rfl) ?_
          refine nT ?_
          refine AWp.seq ?_
          refine AWp.seq ?_
          refine AWp.rg hT hA {} (by (repeat (cbv; simp only [c22])); first | done | cbv) (lb rfl) ?_
          refine nT ?_
          rcases tf (A.zeq r27 0) with c28 | c28
          · replace h := cT c28 h
            refine AWp.cdF rfl (by first | rfl | simp only [c22, c28, Bool.not_true, Bool.not_false, cond_true, cond_false]) ?_
            refine AWp.skip ?_
            refine nT ?_
            refine AWp.seq ?_
            refine AWp.rg hT hA {} (by (repeat (cbv; simp only [c22, c28])); first | done | cbv) (lb rfl) ?_
            refine nT ?_
            refine AWp.seq ?_
            refine AWp.seq ?_
            refine AWp.rg hT hA {} (by (repeat (cbv; simp only [c22, c28])); first | done | cbv) (lb rfl) ?_
            refine nT ?_
            refine AWp.block ?_
            obtain ⟨xK57, hxK57, K57, hK57, hkK57⟩ := bindK h
            refine AWp.cutX 0 [0, 1, 5, 9, 10] [] 1 (lb rfl) (fun τ => ∃ v56, K57 (.inl v56) = some v146 ∧ τ = { env := [(0, (.d (.list 4 x1))), (1, (.d (.list 6 x2))), (5, (.ptr 0 0)), (9, (.d (.bool r26))), (10, (.d (.bool v56)))], heap := [(.arr 1 x3)], n := 217 }) ?_ ?_
            · skip
              refine AWp.iter hxK57 [0, 1, 5, 9, 10, 11] [] 1 (lb rfl) (fun (v40, v41) => { env := [(0, (.d (.list 4 x1))), (1, (.d (.list 6 x2))), (5, (.ptr 0 0)), (9, (.d (.bool r26))), (10, (.d (.bool v40))), (11, (.d (.int .i64 v41)))], heap := [(.arr 1 x3)], n := 217 }) ⟨rfl, (by first | (cbv; done) | ((repeat (cbv; simp only [c22, c28])); first | done | cbv))⟩ ?_
              rintro ⟨v40, v41⟩ eK57 hsK57
              dsimp only [H9L0] at hsK57
              refine AWp.seq ?_
              refine AWp.seq ?_
              refine AWp.rg hT hA {} (by cbv) (lb rfl) ?_
              refine nT ?_
              rcases tf (A.zlt v41 2) with c42 | c42
              · replace hsK57 := cT c42 hsK57
                refine AWp.cdT rfl (by first | rfl | simp only [c42, Bool.not_true, Bool.not_false, cond_true, cond_false]) ?_
                refine AWp.skip ?_
                refine nT ?_
                refine AWp.seq ?_
                refine AWp.block ?_
                refine AWp.seq ?_
                refine AWp.region ?_
                obtain ⟨⟨r44, r45⟩, e43, hsK57⟩ := bindS hsK57
                refine AOps.cc hT hA {} (by (repeat (cbv; simp only [c42])); first | done | cbv) (lb rfl) (H40w hA e43) rfl (.inr rfl) rfl rfl rfl (lb rfl) rfl rfl ?_
                refine AOps.cd hT hA {} (by (repeat (cbv; simp only [c42])); first | done | cbv) (lb rfl) ?_
                refine nT ?_
                refine AWp.seq ?_
                refine AWp.region ?_
                obtain ⟨⟨r47, r48⟩, e46, hsK57⟩ := bindS hsK57
                refine AOps.cc hT hA {} (by (repeat (cbv; simp only [c42])); first | done | cbv) (lb rfl) (H26w hA e46) rfl (.inr rfl) rfl rfl rfl (lb rfl) rfl rfl ?_
                refine AOps.cd hT hA {} (by (repeat (cbv; simp only [c42])); first | done | cbv) (lb rfl) ?_
                refine nT ?_
                refine AWp.seq ?_
                refine AWp.seq ?_
                obtain ⟨v50, hvK51, hsK57⟩ := bindS hsK57
                refine AWp.cutN [0, 1, 5, 9, 10, 11, 14, 76] [] 1 (lb rfl) (fun τ => τ = { env := [(0, (.d (.list 4 x1))), (1, (.d (.list 6 x2))), (5, (.ptr 0 0)), (9, (.d (.bool r26))), (10, (.d (.bool v40))), (11, (.d (.int .i64 v41))), (14, (.d (.bool r47))), (76, (.d (.bool v50)))], heap := [(.arr 1 x3)], n := 217 }) ?_ ?_
                · skip
                  rcases tf (A.zeq r45 0) with c49 | c49
                  · replace hvK51 := cT c49 hvK51
                    refine AWp.rg hT hA {} (by (repeat (cbv; simp only [c42, c49])); first | done | cbv) (lb rfl) ?_
                    cases soI hvK51
                    exact oNi ⟨rfl, (by first | (cbv; done) | ((repeat (cbv; simp only [c42, c49])); first | done | cbv))⟩
                  · replace hvK51 := cF c49 hvK51
                    refine AWp.rg hT hA {} (by (repeat (cbv; simp only [c42, c49])); first | done | cbv) (lb rfl) ?_
                    cases soI hvK51
                    exact oNi ⟨rfl, (by first | (cbv; done) | ((repeat (cbv; simp only [c42, c49])); first | done | cbv))⟩
                · rintro _ rfl
                  refine nT ?_
                  rcases tf v50 with c52 | c52
                  · replace hsK57 := cT c52 hsK57
                    refine AWp.cdT rfl (by first | rfl | simp only [c52, Bool.not_true, Bool.not_false, cond_true, cond_false]) ?_
                    refine AWp.seq ?_
                    refine AWp.rg hT hA {} (by (repeat (cbv; simp only [c52])); first | done | cbv) (lb rfl) ?_
                    refine nT ?_
                    refine AWp.ret ?_
                    refine rT ?_
                    refine rB ?_
                    refine rT ?_
                    refine rT ?_
                    refine exL hsK57 fun hx => ?_
                    subst hx
                    refine oxR ?_
                    replace hkK57 := (eR (hK57 _ hkK57))
                    refine rB ?_
                    refine rT ?_
                    cases soI hkK57
                    exact ⟨rfl, rfl, rfl, lb rfl, _, rfl⟩
                  · replace hsK57 := cF c52 hsK57
                    refine AWp.cdF rfl (by first | rfl | simp only [c52, Bool.not_true, Bool.not_false, cond_true, cond_false]) ?_
                    refine AWp.skip ?_
                    refine nT ?_
                    obtain ⟨v54, hvK55, hsK57⟩ := bindS hsK57
                    refine AWp.cutN [0, 1, 5, 9, 10, 11] [] 1 (lb rfl) (fun τ => τ = { env := [(0, (.d (.list 4 x1))), (1, (.d (.list 6 x2))), (5, (.ptr 0 0)), (9, (.d (.bool r26))), (10, (.d (.bool v54))), (11, (.d (.int .i64 v41)))], heap := [(.arr 1 x3)], n := 217 }) ?_ ?_
                    · skip
                      rcases tf v40 with c53 | c53
                      · replace hvK55 := cT c53 hvK55
                        refine AWp.rg hT hA {} (by (repeat (cbv; simp only [c52, c53])); first | done | cbv) (lb rfl) ?_
                        cases soI hvK55
                        exact oNi ⟨rfl, (by first | (cbv; done) | ((repeat (cbv; simp only [c52, c53])); first | done | cbv))⟩
                      · replace hvK55 := cF c53 hvK55
                        refine AWp.rg hT hA {} (by (repeat (cbv; simp only [c52, c53])); first | done | cbv) (lb rfl) ?_
                        cases soI hvK55
                        exact oNi ⟨rfl, (by first | (cbv; done) | ((repeat (cbv; simp only [c52, c53])); first | done | cbv))⟩
                    · rintro _ rfl
                      refine nB ?_
                      refine nT ?_
                      refine AWp.rg hT hA {} (by cbv) (lb rfl) ?_
                      exact nT ⟨_, (soI hsK57).symm, rfl, (by cbv)⟩
              · replace hsK57 := cF c42 hsK57
                refine AWp.cdF rfl (by first | rfl | simp only [c42, Bool.not_true, Bool.not_false, cond_true, cond_false]) ?_
                refine AWp.exit ?_
                refine xT ?_
                refine xT ?_
                refine exL hsK57 fun hx => ?_
                subst hx
                exact oxI ⟨rfl, _, hkK57, (by first | (cbv; done) | ((repeat (cbv; simp only [c42])); first | done | cbv))⟩
            · rintro _ ⟨v56, hkK57, rfl⟩
              have h := (eL (hK57 _ hkK57))
              refine xB ?_
              refine nT ?_
              refine AWp.seq ?_
              refine AWp.seq ?_
              refine AWp.rg hT hA {} (by cbv) (lb rfl) ?_
              refine nT ?_
              rcases tf (A.beq v56 r26) with c58 | c58
              · replace h := cT c58 h
                refine AWp.cdF rfl (by first | rfl | simp only [c58, Bool.not_true, Bool.not_false, cond_true, cond_false]) ?_
                refine AWp.skip ?_
                refine nT ?_
                refine AWp.seq ?_
                refine AWp.seq ?_
                refine AWp.rg hT hA {} (by (repeat (cbv; simp only [c58])); first | done | cbv) (lb rfl) ?_
                refine nT ?_
                rcases tf r26 with c59 | c59
                · replace h := cT c59 h
                  have c60 := c58
                  rw [c59] at c60
                  refine AWp.cdF rfl (by first | rfl | simp only [c58, c59, c60, Bool.not_true, Bool.not_false, cond_true, cond_false]) ?_
                  refine AWp.skip ?_
                  refine nT ?_
                  refine AWp.seq ?_
                  refine AWp.region ?_
                  obtain ⟨⟨r70, r71⟩, e69, h⟩ := bindS h
                  refine AOps.cc hT hA {} (by (repeat (cbv; simp only [c58, c59, c60])); first | done | cbv) (lb rfl) (H43w hA e69) rfl (.inr rfl) rfl rfl rfl (lb rfl) rfl rfl ?_
                  refine AOps.cd hT hA {} (by (repeat (cbv; simp only [c58, c59, c60])); first | done | cbv) (lb rfl) ?_
                  refine nT ?_
                  refine AWp.seq ?_
                  refine AWp.region ?_
                  obtain ⟨⟨r73, r74⟩, e72, h⟩ := bindS h
                  refine AOps.cc hT hA {} (by (repeat (cbv; simp only [c58, c59, c60])); first | done | cbv) (lb rfl) (H44w hA e72) rfl (.inr rfl) rfl rfl rfl (lb rfl) rfl rfl ?_
                  refine AOps.cd hT hA {} (by (repeat (cbv; simp only [c58, c59, c60])); first | done | cbv) (lb rfl) ?_
                  refine nT ?_
                  refine AWp.seq ?_
                  refine AWp.seq ?_
                  obtain ⟨v77, hvK78, h⟩ := bindS h
                  refine AWp.cutN [0, 1, 5, 18, 119] [] 1 (lb rfl) (fun τ => τ = { env := [(0, (.d (.list 4 x1))), (1, (.d (.list 6 x2))), (5, (.ptr 0 0)), (18, (.d (.list 1 r70))), (119, (.d (.bool v77)))], heap := [(.arr 1 x3)], n := 217 }) ?_ ?_
                  · skip
                    rcases tf (A.zeq r71 0) with c75 | c75
                    · replace hvK78 := cT c75 hvK78
                      rcases tf (A.zeq r74 0) with c76 | c76
                      · replace hvK78 := cT c76 hvK78
                        refine AWp.rg hT hA {} (by (repeat (cbv; simp only [c58, c59, c60, c75, c76])); first | done | cbv) (lb rfl) ?_
                        cases soI hvK78
                        exact oNi ⟨rfl, (by first | (cbv; done) | ((repeat (cbv; simp only [c58, c59, c60, c75, c76])); first | done | cbv))⟩
                      · replace hvK78 := cF c76 hvK78
                        refine AWp.rg hT hA {} (by (repeat (cbv; simp only [c58, c59, c60, c75, c76])); first | done | cbv) (lb rfl) ?_
                        cases soI hvK78
                        exact oNi ⟨rfl, (by first | (cbv; done) | ((repeat (cbv; simp only [c58, c59, c60, c75, c76])); first | done | cbv))⟩
                    · replace hvK78 := cF c75 hvK78
                      refine AWp.rg hT hA {} (by (repeat (cbv; simp only [c58, c59, c60, c75])); first | done | cbv) (lb rfl) ?_
                      cases soI hvK78
                      exact oNi ⟨rfl, (by first | (cbv; done) | ((repeat (cbv; simp only [c58, c59, c60, c75])); first | done | cbv))⟩
                  · rintro _ rfl
                    refine nT ?_
                    rcases tf v77 with c79 | c79
                    · replace h := cT c79 h
                      refine AWp.cdT rfl (by first | rfl | simp only [c79, Bool.not_true, Bool.not_false, cond_true, cond_false]) ?_
                      refine AWp.seq ?_
                      refine AWp.rg hT hA {} (by (repeat (cbv; simp only [c79])); first | done | cbv) (lb rfl) ?_
                      refine nT ?_
                      refine AWp.ret ?_
                      refine rT ?_
                      cases soI h
                      exact ⟨rfl, rfl, rfl, lb rfl, _, rfl⟩
                    · replace h := cF c79 h
                      refine AWp.cdF rfl (by first | rfl | simp only [c79, Bool.not_true, Bool.not_false, cond_true, cond_false]) ?_
                      refine AWp.skip ?_
                      refine nT ?_
                      refine AWp.seq ?_
                      refine AWp.region ?_
                      obtain ⟨a80, e81, h⟩ := bindS h
                      have f82 := gcI e81
                      obtain ⟨_, e83, h⟩ := bindS h
                      have f84 := nkI e83
                      obtain ⟨⟨r86, r87⟩, e85, h⟩ := bindS h
                      refine AOps.cc hT hA {} (by (repeat (cbv; simp only [c79, f82, f84])); first | done | cbv) (lb rfl) (H45w hA e85) rfl (.inr rfl) rfl rfl rfl (lb rfl) rfl rfl ?_
                      refine AOps.cd hT hA {} (by (repeat (cbv; simp only [c79, f82, f84])); first | done | cbv) (lb rfl) ?_
                      refine nT ?_
                      refine AWp.seq ?_
                      refine AWp.region ?_
                      obtain ⟨⟨r89, r90⟩, e88, h⟩ := bindS h
                      refine AOps.cc hT hA {} (by (repeat (cbv; simp only [c79])); first | done | cbv) (lb rfl) (H26w hA e88) rfl (.inr rfl) rfl rfl rfl (lb rfl) rfl rfl ?_
                      refine AOps.cd hT hA {} (by (repeat (cbv; simp only [c79])); first | done | cbv) (lb rfl) ?_
                      refine nT ?_
                      refine AWp.seq ?_
                      refine AWp.seq ?_
                      obtain ⟨v93, hvK94, h⟩ := bindS h
                      refine AWp.cutN [0, 1, 5, 18, 144] [] 1 (lb rfl) (fun τ => τ = { env := [(0, (.d (.list 4 x1))), (1, (.d (.list 6 x2))), (5, (.ptr 0 0)), (18, (.d (.list 1 r70))), (144, (.d (.bool v93)))], heap := [(.arr 1 x3)], n := 217 }) ?_ ?_
                      · skip
                        rcases tf (A.zeq r87 0) with c91 | c91
                        · replace hvK94 := cT c91 hvK94
                          rcases tf (A.zeq r90 0) with c92 | c92
                          · replace hvK94 := cT c92 hvK94
                            refine AWp.rg hT hA {} (by (repeat (cbv; simp only [c79, c91, c92])); first | done | cbv) (lb rfl) ?_
                            cases soI hvK94
                            exact oNi ⟨rfl, (by first | (cbv; done) | ((repeat (cbv; simp only [c79, c91, c92])); first | done | cbv))⟩
                          · replace hvK94 := cF c92 hvK94
                            refine AWp.rg hT hA {} (by (repeat (cbv; simp only [c79, c91, c92])); first | done | cbv) (lb rfl) ?_
                            cases soI hvK94
                            exact oNi ⟨rfl, (by first | (cbv; done) | ((repeat (cbv; simp only [c79, c91, c92])); first | done | cbv))⟩
                        · replace hvK94 := cF c91 hvK94
                          refine AWp.rg hT hA {} (by (repeat (cbv; simp only [c79, c91])); first | done | cbv) (lb rfl) ?_
                          cases soI hvK94
                          exact oNi ⟨rfl, (by first | (cbv; done) | ((repeat (cbv; simp only [c79, c91])); first | done | cbv))⟩
                      · rintro _ rfl
                        refine nT ?_
                        rcases tf v93 with c95 | c95
                        · replace h := cT c95 h
                          refine AWp.cdT rfl (by first | rfl | simp only [c95, Bool.not_true, Bool.not_false, cond_true, cond_false]) ?_
                          refine AWp.seq ?_
                          refine AWp.rg hT hA {} (by (repeat (cbv; simp only [c95])); first | done | cbv) (lb rfl) ?_
                          refine nT ?_
                          refine AWp.ret ?_
                          refine rT ?_
                          cases soI h
                          exact ⟨rfl, rfl, rfl, lb rfl, _, rfl⟩
                        · replace h := cF c95 h
                          refine AWp.cdF rfl (by first | rfl | simp only [c95, Bool.not_true, Bool.not_false, cond_true, cond_false]) ?_
                          refine AWp.skip ?_
                          refine nT ?_
                          refine AWp.seq ?_
                          refine AWp.seq ?_
                          refine AWp.rg hT hA {} (by (repeat (cbv; simp only [c95])); first | done | cbv) (lb rfl) ?_
                          refine nT ?_
                          rcases tf (A.zeq (A.len x2) 0) with c96 | c96
                          · replace h := cT c96 h
                            refine AWp.cdT rfl (by first | rfl | simp only [c95, c96, Bool.not_true, Bool.not_false, cond_true, cond_false]) ?_
                            refine AWp.seq ?_
                            refine AWp.region ?_
                            obtain ⟨r98, e97, h⟩ := bindS h
                            refine AOps.cc hT hA { tk := [148] } (by (repeat (cbv; simp only [c95, c96])); first | done | cbv) (lb rfl) (H19w hA e97) rfl (.inr rfl) rfl rfl rfl (lb rfl) rfl rfl ?_
                            refine AOps.cd hT hA { tk := [148] } (by (repeat (cbv; simp only [c95, c96])); first | done | cbv) (lb rfl) ?_
                            refine nT ?_
                            refine AWp.ret ?_
                            refine rT ?_
                            cases soI h
                            exact ⟨rfl, rfl, rfl, lb rfl, _, rfl⟩
                          · replace h := cF c96 h
                            refine AWp.cdF rfl (by first | rfl | simp only [c95, c96, Bool.not_true, Bool.not_false, cond_true, cond_false]) ?_
                            refine AWp.skip ?_
                            refine nT ?_
                            refine AWp.seq ?_
                            obtain ⟨a99, e100, h⟩ := bindS h
                            have f101 := gcI e100
                            obtain ⟨_, e102, h⟩ := bindS h
                            have f103 := nkI e102
                            refine AWp.rg hT hA {} (by (repeat (cbv; simp only [c95, c96, f101, f103])); first | done | cbv) (lb rfl) ?_
                            refine nT ?_
                            refine AWp.seq ?_
                            refine AWp.regionDraw rfl (lb rfl) ?_
                            obtain ⟨⟨a104, a105, a106, a107, a108, a109⟩, e110, h⟩ := bindS h
                            obtain ⟨f111, f112⟩ := gtI e110
                            obtain ⟨a113, e114, h⟩ := bindS h
                            have f115 := gcI e114
                            obtain ⟨_, e116, h⟩ := bindS h
                            have f117 := nkI e116
                            obtain ⟨a118, e119, h⟩ := bindS h
                            have f120 := gcI e119
                            obtain ⟨_, e121, h⟩ := bindS h
                            have f122 := nkI e121
                            obtain ⟨⟨r124, r125⟩, e123, h⟩ := bindS h
                            refine DOps.c0 hT hA {} rfl (by (repeat (cbv; simp only [c95, c96, f111, f112, f115, f117, f120, f122])); first | done | cbv) (H41w hA e123) rfl rfl (lb rfl) rfl rfl ?_
                            refine DOps.cd hT hA {} rfl (by (repeat (cbv; simp only [c95, c96, f111, f112, f115, f117, f120, f122])); first | done | cbv) (by kernel_rfl) ?_
                            refine nT ?_
                            refine AWp.seq ?_
                            refine AWp.seq ?_
                            refine AWp.rg hT hA {} (by (repeat (cbv; simp only [c95, c96])); first | done | cbv) (lb rfl) ?_
                            refine nT ?_
                            rcases tf (A.zeq r125 0) with c126 | c126
                            · replace h := cT c126 h
                              refine AWp.cdF rfl (by first | rfl | simp only [c95, c96, c126, Bool.not_true, Bool.not_false, cond_true, cond_false]) ?_
                              refine AWp.skip ?_
                              refine nT ?_
                              refine AWp.seq ?_
                              refine AWp.region ?_
                              obtain ⟨⟨r133, r134⟩, e132, h⟩ := bindS h
                              refine AOps.cc hT hA {} (by (repeat (cbv; simp only [c95, c96, c126])); first | done | cbv) (lb rfl) (H26w hA e132) rfl (.inr rfl) rfl rfl rfl (lb rfl) rfl rfl ?_
                              refine AOps.cd hT hA {} (by (repeat (cbv; simp only [c95, c96, c126])); first | done | cbv) (lb rfl) ?_
                              refine nT ?_
                              refine AWp.seq ?_
                              refine AWp.region ?_
                              obtain ⟨⟨r136, r137⟩, e135, h⟩ := bindS h
                              refine AOps.cc hT hA {} (by (repeat (cbv; simp only [c95, c96, c126])); first | done | cbv) (lb rfl) (H46w hA e135) rfl (.inr rfl) rfl rfl rfl (lb rfl) rfl rfl ?_
                              refine AOps.cd hT hA {} (by (repeat (cbv; simp only [c95, c96, c126])); first | done | cbv) (lb rfl) ?_
                              refine nT ?_
                              refine AWp.seq ?_
                              obtain ⟨v144, hvK145, h⟩ := bindS h
                              refine AWp.cutN [6] [] 1 (lb rfl) (fun τ => τ = { env := [(6, (.d (.bool v144)))], heap := [(.arr 1 x3)], n := 217 }) ?_ ?_
                              · skip
                                refine AWp.region ?_
                                rcases tf (A.zeq r134 0) with c138 | c138
                                · replace hvK145 := cT c138 hvK145
                                  rcases tf (A.zeq r137 0) with c139 | c139
                                  · replace hvK145 := cT c139 hvK145
                                    rcases tf r133 with c140 | c140
                                    · replace hvK145 := cT c140 hvK145
                                      rcases tf r136 with c141 | c141
                                      · replace hvK145 := cT c141 hvK145
                                        obtain ⟨r143, e142, hvK145⟩ := bindS hvK145
                                        refine AOps.cc hT hA { tk := [216] } (by (repeat (cbv; simp only [c95, c96, c126, c138, c139, c140, c141])); first | done | cbv) (lb rfl) (H19w hA e142) rfl (.inr rfl) rfl rfl rfl (lb rfl) rfl rfl ?_
                                        refine AOps.cd hT hA { tk := [216] } (by (repeat (cbv; simp only [c95, c96, c126, c138, c139, c140, c141])); first | done | cbv) (lb rfl) ?_
                                        cases soI hvK145
                                        exact oNi ⟨rfl, (by first | (cbv; done) | ((repeat (cbv; simp only [c95, c96, c126, c138, c139, c140, c141])); first | done | cbv))⟩
                                      · replace hvK145 := cF c141 hvK145
                                        refine AOps.cd hT hA { tk := [216] } (by (repeat (cbv; simp only [c95, c96, c126, c138, c139, c140, c141])); first | done | cbv) (lb rfl) ?_
                                        cases soI hvK145
                                        exact oNi ⟨rfl, (by first | (cbv; done) | ((repeat (cbv; simp only [c95, c96, c126, c138, c139, c140, c141])); first | done | cbv))⟩
                                    · replace hvK145 := cF c140 hvK145
                                      refine AOps.cd hT hA { tk := [216] } (by (repeat (cbv; simp only [c95, c96, c126, c138, c139, c140])); first | done | cbv) (lb rfl) ?_
                                      cases soI hvK145
                                      exact oNi ⟨rfl, (by first | (cbv; done) | ((repeat (cbv; simp only [c95, c96, c126, c138, c139, c140])); first | done | cbv))⟩
                                  · replace hvK145 := cF c139 hvK145
                                    refine AOps.cd hT hA { tk := [216] } (by (repeat (cbv; simp only [c95, c96, c126, c138, c139])); first | done | cbv) (lb rfl) ?_
                                    cases soI hvK145
                                    exact oNi ⟨rfl, (by first | (cbv; done) | ((repeat (cbv; simp only [c95, c96, c126, c138, c139])); first | done | cbv))⟩
                                · replace hvK145 := cF c138 hvK145
                                  refine AOps.cd hT hA { tk := [216] } (by (repeat (cbv; simp only [c95, c96, c126, c138])); first | done | cbv) (lb rfl) ?_
                                  cases soI hvK145
                                  exact oNi ⟨rfl, (by first | (cbv; done) | ((repeat (cbv; simp only [c95, c96, c126, c138])); first | done | cbv))⟩
                              · rintro _ rfl
                                refine nT ?_
                                refine AWp.ret ?_
                                cases soI h
                                exact ⟨rfl, rfl, rfl, lb rfl, _, rfl⟩
                            · replace h := cF c126 h
                              refine AWp.cdT rfl (by first | rfl | simp only [c95, c96, c126, Bool.not_true, Bool.not_false, cond_true, cond_false]) ?_
                              refine AWp.seq ?_
                              obtain ⟨v130, hvK131, h⟩ := bindS h
                              refine AWp.cutN [6] [] 1 (lb rfl) (fun τ => τ = { env := [(6, (.d (.bool v130)))], heap := [(.arr 1 x3)], n := 217 }) ?_ ?_
                              · skip
                                refine AWp.region ?_
                                rcases tf (A.zeq r125 2) with c127 | c127
                                · replace hvK131 := cT c127 hvK131
                                  obtain ⟨r129, e128, hvK131⟩ := bindS hvK131
                                  refine AOps.cc hT hA { tk := [188] } (by (repeat (cbv; simp only [c95, c96, c126, c127])); first | done | cbv) (lb rfl) (H19w hA e128) rfl (.inr rfl) rfl rfl rfl (lb rfl) rfl rfl ?_
                                  refine AOps.cd hT hA { tk := [188] } (by (repeat (cbv; simp only [c95, c96, c126, c127])); first | done | cbv) (lb rfl) ?_
                                  cases soI hvK131
                                  exact oNi ⟨rfl, (by first | (cbv; done) | ((repeat (cbv; simp only [c95, c96, c126, c127])); first | done | cbv))⟩
                                · replace hvK131 := cF c127 hvK131
                                  refine AOps.cd hT hA { tk := [188] } (by (repeat (cbv; simp only [c95, c96, c126, c127])); first | done | cbv) (lb rfl) ?_
                                  cases soI hvK131
                                  exact oNi ⟨rfl, (by first | (cbv; done) | ((repeat (cbv; simp only [c95, c96, c126, c127])); first | done | cbv))⟩
                              · rintro _ rfl
                                refine nT ?_
                                refine AWp.ret ?_
                                refine rT ?_
                                cases soI h
                                exact ⟨rfl, rfl, rfl, lb rfl, _, rfl⟩
                · replace h := cF c59 h
                  have c60 := c58
                  rw [c59] at c60
                  refine AWp.cdT rfl (by first | rfl | simp only [c58, c59, c60, Bool.not_true, Bool.not_false, cond_true, cond_false]) ?_
                  refine AWp.seq ?_
                  refine AWp.region ?_
                  obtain ⟨⟨r62, r63⟩, e61, h⟩ := bindS h
                  refine AOps.cc hT hA {} (by (repeat (cbv; simp only [c58, c59, c60])); first | done | cbv) (lb rfl) (H43w hA e61) rfl (.inr rfl) rfl rfl rfl (lb rfl) rfl rfl ?_
                  refine AOps.cd hT hA {} (by (repeat (cbv; simp only [c58, c59, c60])); first | done | cbv) (lb rfl) ?_
                  refine nT ?_
                  refine AWp.seq ?_
                  obtain ⟨v67, hvK68, h⟩ := bindS h
                  refine AWp.cutN [6] [] 1 (lb rfl) (fun τ => τ = { env := [(6, (.d (.bool v67)))], heap := [(.arr 1 x3)], n := 217 }) ?_ ?_
                  · skip
                    refine AWp.region ?_
                    rcases tf (A.zeq r63 5) with c64 | c64
                    · replace hvK68 := cT c64 hvK68
                      obtain ⟨r66, e65, hvK68⟩ := bindS hvK68
                      refine AOps.cc hT hA { tk := [96] } (by (repeat (cbv; simp only [c58, c59, c60, c64])); first | done | cbv) (lb rfl) (H19w hA e65) rfl (.inr rfl) rfl rfl rfl (lb rfl) rfl rfl ?_
                      refine AOps.cd hT hA { tk := [96] } (by (repeat (cbv; simp only [c58, c59, c60, c64])); first | done | cbv) (lb rfl) ?_
                      cases soI hvK68
                      exact oNi ⟨rfl, (by first | (cbv; done) | ((repeat (cbv; simp only [c58, c59, c60, c64])); first | done | cbv))⟩
                    · replace hvK68 := cF c64 hvK68
                      refine AOps.cd hT hA { tk := [96] } (by (repeat (cbv; simp only [c58, c59, c60, c64])); first | done | cbv) (lb rfl) ?_
                      cases soI hvK68
                      exact oNi ⟨rfl, (by first | (cbv; done) | ((repeat (cbv; simp only [c58, c59, c60, c64])); first | done | cbv))⟩
                  · rintro _ rfl
                    refine nT ?_
                    refine AWp.ret ?_
                    refine rT ?_
                    cases soI h
                    exact ⟨rfl, rfl, rfl, lb rfl, _, rfl⟩
              · replace h := cF c58 h
                refine AWp.cdT rfl (by first | rfl | simp only [c58, Bool.not_true, Bool.not_false, cond_true, cond_false]) ?_
                refine AWp.seq ?_
                refine AWp.rg hT hA {} (by (repeat (cbv; simp only [c58])); first | done | cbv) (lb rfl) ?_
                refine nT ?_
                refine AWp.ret ?_
                refine rT ?_
                cases soI h
                exact ⟨rfl, rfl, rfl, lb rfl, _, rfl⟩
          · replace h := cF c28 h
            refine AWp.cdT rfl (by first | rfl | simp only [c22, c28, Bool.not_true, Bool.not_false, cond_true, cond_false]) ?_
            refine AWp.seq ?_
            refine AWp.rg hT hA {} (by (repeat (cbv; simp only [c22, c28])); first | done | cbv) (lb rfl) ?_
            refine nT ?_
            refine AWp.ret ?_
            refine rT ?_
            cases soI h
            exact ⟨rfl, rfl, rfl, lb rfl, _, rfl⟩
end Go.Am
