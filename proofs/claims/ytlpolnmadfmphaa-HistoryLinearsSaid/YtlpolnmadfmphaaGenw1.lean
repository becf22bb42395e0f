/- Own text: Genw1. -/
import Derived.Test.YtlpolnmadfmphaaGenw0
set_option maxRecDepth 100000
set_option maxHeartbeats 2000000
set_option linter.unusedVariables false
set_option linter.unusedSimpArgs false
namespace Go.Am
open Go Go.Proofs
theorem H117aw {A : Ar} (hA : A = Ar.std) {x1 : List D} {x2 : Int} {v17 : Bool} (h : H117a A x1 x2 = some v17) : ACall Try.prog 117 [(.d (.list 1 x1)), (.d (.int .i64 x2))] [] (.d (.bool v17)) [] := by
  unfold H117a at h
  refine ACall.enter hT (fn := Try.f117) Try.func117 rfl (by decide) (by simp [Try.f117]) rfl rfl rfl rfl (lb rfl) ?_
  refine AWp.seq ?_
  refine AWp.rg hT hA {} (by cbv) (lb rfl) ?_
  refine nT ?_
  refine AWp.seq ?_
  refine AWp.seq ?_
  refine AWp.rg hT hA {} (by cbv) (lb rfl) ?_
  refine nT ?_
  refine AWp.block ?_
  obtain ⟨xK16, hxK16, K16, hK16, hkK16⟩ := bindK h
  refine AWp.cutX 0 [] [] 0 (lb rfl) (fun τ => K16 (.inl ()) = some v17 ∧ τ = { env := [], heap := [], n := 18 }) ?_ ?_
  · skip
    refine AWp.iter hxK16 [0, 1, 5] [] 0 (lb rfl) (fun v9 => { env := [(0, (.d (.list 1 x1))), (1, (.d (.int .i64 x2))), (5, (.d (.int .i64 v9)))], heap := [], n := 18 }) ⟨rfl, (by cbv)⟩ ?_
    rintro v9 eK16 hsK16
    dsimp only [H117aL0] at hsK16
    refine AWp.seq ?_
    refine AWp.seq ?_
    refine AWp.rg hT hA {} (by cbv) (lb rfl) ?_
    refine nT ?_
    rcases tf (A.zlt v9 (A.len x1)) with c10 | c10
    · replace hsK16 := cT c10 hsK16
      refine AWp.cdT rfl (by first | rfl | simp only [c10, Bool.not_true, Bool.not_false, cond_true, cond_false]) ?_
      refine AWp.skip ?_
      refine nT ?_
      refine AWp.seq ?_
      refine AWp.block ?_
      refine AWp.seq ?_
      obtain ⟨a11, e12, hsK16⟩ := bindS hsK16
      obtain ⟨f13, f14⟩ := gtI e12
      refine AWp.rg hT hA {} (by (repeat (cbv; simp only [c10, f13, f14])); first | done | cbv) (lb rfl) ?_
      refine nT ?_
      rcases tf (A.zeq a11 x2) with c15 | c15
      · replace hsK16 := cT c15 hsK16
        refine AWp.cdT rfl (by first | rfl | simp only [c10, c15, Bool.not_true, Bool.not_false, cond_true, cond_false]) ?_
        refine AWp.seq ?_
        refine AWp.rg hT hA {} (by (repeat (cbv; simp only [c10, c15])); first | done | cbv) (lb rfl) ?_
        refine nT ?_
        refine AWp.ret ?_
        refine rB ?_
        refine rT ?_
        refine rT ?_
        refine exL hsK16 fun hx => ?_
        subst hx
        refine oxR ?_
        replace hkK16 := (eR (hK16 _ hkK16))
        refine rB ?_
        refine rT ?_
        cases soI hkK16
        exact ⟨rfl, rfl, rfl, lb rfl, _, rfl⟩
      · replace hsK16 := cF c15 hsK16
        refine AWp.cdF rfl (by first | rfl | simp only [c10, c15, Bool.not_true, Bool.not_false, cond_true, cond_false]) ?_
        refine AWp.skip ?_
        refine nB ?_
        refine nT ?_
        refine AWp.rg hT hA {} (by (repeat (cbv; simp only [c10, c15])); first | done | cbv) (lb rfl) ?_
        exact nT ⟨_, (soI hsK16).symm, rfl, (by first | cbv | ((repeat (cbv; simp only [c10, c15])); first | done | cbv))⟩
    · replace hsK16 := cF c10 hsK16
      refine AWp.cdF rfl (by first | rfl | simp only [c10, Bool.not_true, Bool.not_false, cond_true, cond_false]) ?_
      refine AWp.exit ?_
      refine xT ?_
      refine xT ?_
      refine exL hsK16 fun hx => ?_
      subst hx
      exact oxI ⟨rfl, hkK16, (by first | cbv | ((repeat (cbv; simp only [c10])); first | done | cbv))⟩
  · rintro _ ⟨hkK16, rfl⟩
    have h := (eL (hK16 _ hkK16))
    refine xB ?_
    refine nT ?_
    refine AWp.seq ?_
    refine AWp.rg hT hA {} (by cbv) (lb rfl) ?_
    refine nT ?_
    refine AWp.ret ?_
    cases soI h
    exact ⟨rfl, rfl, rfl, lb rfl, _, rfl⟩

theorem H95aw {A : Ar} (hA : A = Ar.std) {x1 : List D} {x2 : List D} {x3 : List D} {v137 : Bool} (h : H95a A x1 x2 x3 = some v137) : ACall Try.prog 95 [(.d (.list 4 x1)), (.d (.list 6 x2)), (.d (.list 1 x3))] [] (.d (.bool v137)) [] := by
  unfold H95a at h
  refine ACall.enter hT (fn := Try.f95) Try.func95 rfl (by decide) (by simp [Try.f95]) rfl rfl rfl rfl (lb rfl) ?_
  refine AWp.seq ?_
  refine AWp.rg hT hA {} (by cbv) (lb rfl) ?_
  refine nT ?_
  refine AWp.seq ?_
  obtain ⟨_, e7, h⟩ := bindS h
  have f4 := ckI e7
  obtain ⟨_, e8, h⟩ := bindS h
  have f5 := ckI e8
  obtain ⟨_, e9, h⟩ := bindS h
  have f6 := ckI e9
  refine AWp.rg hT hA {} (by (repeat (cbv; simp only [f4, f5, f6])); first | done | cbv) (lb rfl) ?_
  refine nT ?_
  refine AWp.seq ?_
  refine AWp.seq ?_
  refine AWp.rg hT hA {} (by cbv) (lb rfl) ?_
  refine nT ?_
  refine AWp.block ?_
  obtain ⟨xK136, hxK136, K136, hK136, hkK136⟩ := bindK h
  refine AWp.cutX 0 [] [] 1 (lb rfl) (fun τ => ∃ v134, K136 (.inl v134) = some v137 ∧ τ = { env := [], heap := [(.arr 1 v134)], n := 70 }) ?_ ?_
  · skip
    refine AWp.iter hxK136 [0, 1, 2, 7, 8] [] 1 (lb rfl) (fun (v71, v72) => { env := [(0, (.d (.list 4 x1))), (1, (.d (.list 6 x2))), (2, (.d (.list 1 x3))), (7, (.mref 0 1 0 (A.len x1))), (8, (.d (.int .i64 v71)))], heap := [(.arr 1 v72)], n := 70 }) ⟨rfl, (by cbv)⟩ ?_
    rintro ⟨v71, v72⟩ eK136 hsK136
    dsimp only [H95aL0] at hsK136
    refine AWp.seq ?_
    refine AWp.seq ?_
    refine AWp.rg hT hA {} (by cbv) (lb rfl) ?_
    refine nT ?_
    rcases tf (A.zlt v71 (A.len x3)) with c73 | c73
    · replace hsK136 := cT c73 hsK136
      refine AWp.cdT rfl (by first | rfl | simp only [c73, Bool.not_true, Bool.not_false, cond_true, cond_false]) ?_
      refine AWp.skip ?_
      refine nT ?_
      refine AWp.seq ?_
      refine AWp.block ?_
      refine AWp.seq ?_
      obtain ⟨a74, e75, hsK136⟩ := bindS hsK136
      obtain ⟨f76, f77⟩ := gtI e75
      obtain ⟨⟨a78, a79, a80, a81, a82, a83⟩, e84, hsK136⟩ := bindS hsK136
      obtain ⟨f85, f86⟩ := gtI e84
      refine AWp.rg hT hA { tk := [26] } (by (repeat (cbv; simp only [c73, f76, f77, f85, f86])); first | done | cbv) (lb rfl) ?_
      refine nT ?_
      refine AWp.seq ?_
      obtain ⟨⟨a87, a88, a89, a90⟩, e91, hsK136⟩ := bindS hsK136
      obtain ⟨f92, f93⟩ := gtI e91
      refine AWp.rg hT hA { tk := [31] } (by (repeat (cbv; simp only [c73, f92, f93])); first | done | cbv) (lb rfl) ?_
      refine nT ?_
      refine AWp.seq ?_
      refine AWp.seq ?_
      obtain ⟨v110, hvK111, hsK136⟩ := bindS hsK136
      refine AWp.cutN [0, 1, 2, 7, 8, 9, 10, 52] [] 1 (lb rfl) (fun τ => τ = { env := [(0, (.d (.list 4 x1))), (1, (.d (.list 6 x2))), (2, (.d (.list 1 x3))), (7, (.mref 0 1 0 (A.len x1))), (8, (.d (.int .i64 v71))), (9, (.lbox [(.d (.int .i64 a78)), (.d (.int .i64 a79)), (.d (.int .i64 a80)), (.d (.int .i64 a81)), (.d (.int .i64 a82)), (.d (.int .i64 a83))])), (10, (.lbox [(.d (.int .i64 a87)), (.d (.int .i64 a88)), (.d (.list 1 a89)), (.d (.list 1 a90))])), (52, (.d (.bool v110)))], heap := [(.arr 1 v72)], n := 70 }) ?_ ?_
      · skip
        rcases tf (A.zeq a83 0) with c94 | c94
        · replace hvK111 := cT c94 hvK111
          refine AWp.rd hT hA {} rfl (by (repeat (cbv; simp only [c73, c94])); first | done | cbv) (by kernel_rfl) (lb rfl) ?_
          cases soI hvK111
          exact oNi ⟨rfl, (by first | cbv | ((repeat (cbv; simp only [c73, c94])); first | done | cbv))⟩
        · replace hvK111 := cF c94 hvK111
          obtain ⟨_, e95, hvK111⟩ := bindS hvK111
          have f97 := ckI e95
          obtain ⟨_, e96, hvK111⟩ := bindS hvK111
          have f98 := ckI e96
          obtain ⟨a99, e100, hvK111⟩ := bindS hvK111
          have f101 := gcI e100
          obtain ⟨a102, e103, hvK111⟩ := bindS hvK111
          obtain ⟨f104, f105⟩ := gtI e103
          obtain ⟨a106, e107, hvK111⟩ := bindS hvK111
          obtain ⟨f108, f109⟩ := gtI e107
          refine AWp.rd hT hA {} rfl (by (repeat (cbv; simp only [c73, c94, f97, f98, f101, f104, f105, f108, f109])); first | done | cbv) (by kernel_rfl) (lb rfl) ?_
          cases soI hvK111
          exact oNi ⟨rfl, (by first | cbv | ((repeat (cbv; simp only [c73, c94])); first | done | cbv))⟩
      · rintro _ rfl
        refine nT ?_
        rcases tf v110 with c112 | c112
        · replace hsK136 := cT c112 hsK136
          refine AWp.cdT rfl (by first | rfl | simp only [c112, Bool.not_true, Bool.not_false, cond_true, cond_false]) ?_
          refine AWp.seq ?_
          refine AWp.rg hT hA {} (by (repeat (cbv; simp only [c112])); first | done | cbv) (lb rfl) ?_
          refine nT ?_
          refine AWp.ret ?_
          refine rT ?_
          refine rB ?_
          refine rT ?_
          refine rT ?_
          refine exL hsK136 fun hx => ?_
          subst hx
          refine oxR ?_
          replace hkK136 := (eR (hK136 _ hkK136))
          refine rB ?_
          refine rT ?_
          cases soI hkK136
          exact ⟨rfl, rfl, rfl, lb rfl, _, rfl⟩
        · replace hsK136 := cF c112 hsK136
          refine AWp.cdF rfl (by first | rfl | simp only [c112, Bool.not_true, Bool.not_false, cond_true, cond_false]) ?_
          refine AWp.skip ?_
          refine nT ?_
          obtain ⟨_, e113, hsK136⟩ := bindS hsK136
          have f115 := ckI e113
          obtain ⟨_, e114, hsK136⟩ := bindS hsK136
          have f116 := ckI e114
          obtain ⟨a117, e118, hsK136⟩ := bindS hsK136
          have f119 := gcI e118
          obtain ⟨a120, e121, hsK136⟩ := bindS hsK136
          obtain ⟨f122, f123⟩ := gtI e121
          obtain ⟨a124, e125, hsK136⟩ := bindS hsK136
          obtain ⟨f126, f127⟩ := gtI e125
          obtain ⟨_, e128, hsK136⟩ := bindS hsK136
          have f130 := ckI e128
          obtain ⟨_, e129, hsK136⟩ := bindS hsK136
          have f131 := ckI e129
          obtain ⟨d132, e133, hsK136⟩ := bindS hsK136
          refine AWp.rd hT hA { tk := [68] } rfl (by (repeat (cbv; simp only [c112, f115, f116, f119, f122, f123, f126, f127, f130, f131, e133])); first | done | cbv) (by kernel_rfl) (lb rfl) ?_
          refine nB ?_
          refine nT ?_
          refine AWp.rg hT hA {} (by (repeat (cbv; simp only [c112])); first | done | cbv) (lb rfl) ?_
          exact nT ⟨_, (soI hsK136).symm, rfl, (by first | cbv | ((repeat (cbv; simp only [c112])); first | done | cbv))⟩
    · replace hsK136 := cF c73 hsK136
      refine AWp.cdF rfl (by first | rfl | simp only [c73, Bool.not_true, Bool.not_false, cond_true, cond_false]) ?_
      refine AWp.exit ?_
      refine xT ?_
      refine xT ?_
      refine exL hsK136 fun hx => ?_
      subst hx
      exact oxI ⟨rfl, _, hkK136, (by first | cbv | ((repeat (cbv; simp only [c73])); first | done | cbv))⟩
  · rintro _ ⟨v134, hkK136, rfl⟩
    have h := (eL (hK136 _ hkK136))
    refine xB ?_
    refine nT ?_
    refine AWp.seq ?_
    refine AWp.rg hT hA {} (by cbv) (lb rfl) ?_
    refine nT ?_
    refine AWp.ret ?_
    cases soI h
    exact ⟨rfl, rfl, rfl, lb rfl, _, rfl⟩

theorem H108aw {A : Ar} (hA : A = Ar.std) {x1 : List D} {x2 : List D} {v73 : Bool} (h : H108a A x1 x2 = some v73) : ACall Try.prog 108 [(.d (.list 6 x1)), (.d (.list 1 x2))] [] (.d (.bool v73)) [] := by
  unfold H108a at h
  refine ACall.enter hT (fn := Try.f108) Try.func108 rfl (by decide) (by simp [Try.f108]) rfl rfl rfl rfl (lb rfl) ?_
  refine AWp.seq ?_
  refine AWp.rg hT hA {} (by cbv) (lb rfl) ?_
  refine nT ?_
  refine AWp.seq ?_
  refine AWp.seq ?_
  refine AWp.rg hT hA {} (by cbv) (lb rfl) ?_
  refine nT ?_
  refine AWp.block ?_
  obtain ⟨xK72, hxK72, K72, hK72, hkK72⟩ := bindK h
  refine AWp.cutX 0 [] [] 0 (lb rfl) (fun τ => K72 (.inl ()) = some v73 ∧ τ = { env := [], heap := [], n := 54 }) ?_ ?_
  · skip
    refine AWp.iter hxK72 [0, 1, 5] [] 0 (lb rfl) (fun v6 => { env := [(0, (.d (.list 6 x1))), (1, (.d (.list 1 x2))), (5, (.d (.int .i64 v6)))], heap := [], n := 54 }) ⟨rfl, (by cbv)⟩ ?_
    rintro v6 eK72 hsK72
    dsimp only [H108aL1] at hsK72
    refine AWp.seq ?_
    refine AWp.seq ?_
    refine AWp.rg hT hA {} (by cbv) (lb rfl) ?_
    refine nT ?_
    rcases tf (A.zlt v6 (A.len x2)) with c7 | c7
    · replace hsK72 := cT c7 hsK72
      refine AWp.cdT rfl (by first | rfl | simp only [c7, Bool.not_true, Bool.not_false, cond_true, cond_false]) ?_
      refine AWp.skip ?_
      refine nT ?_
      refine AWp.seq ?_
      refine AWp.block ?_
      refine AWp.seq ?_
      refine AWp.rg hT hA {} (by (repeat (cbv; simp only [c7])); first | done | cbv) (lb rfl) ?_
      refine nT ?_
      refine AWp.block ?_
      obtain ⟨xK71, hxK71, K71, hK71, hkK71⟩ := bindK hsK72
      refine AWp.cutX 2 [0, 1, 5] [] 0 (lb rfl) (fun τ => K71 (.inl ()) = some eK72 ∧ τ = { env := [(0, (.d (.list 6 x1))), (1, (.d (.list 1 x2))), (5, (.d (.int .i64 v6)))], heap := [], n := 54 }) ?_ ?_
      · skip
        refine AWp.iter hxK71 [0, 1, 5, 6] [] 0 (lb rfl) (fun v39 => { env := [(0, (.d (.list 6 x1))), (1, (.d (.list 1 x2))), (5, (.d (.int .i64 v6))), (6, (.d (.int .i64 v39)))], heap := [], n := 54 }) ⟨rfl, (by first | cbv | ((repeat (cbv; simp only [c7])); first | done | cbv))⟩ ?_
        rintro v39 eK71 hsK71
        dsimp only [H108aL0] at hsK71
        refine AWp.seq ?_
        refine AWp.seq ?_
        refine AWp.rg hT hA {} (by cbv) (lb rfl) ?_
        refine nT ?_
        rcases tf (A.zlt v39 v6) with c40 | c40
        · replace hsK71 := cT c40 hsK71
          refine AWp.cdT rfl (by first | rfl | simp only [c40, Bool.not_true, Bool.not_false, cond_true, cond_false]) ?_
          refine AWp.skip ?_
          refine nT ?_
          refine AWp.seq ?_
          refine AWp.block ?_
          refine AWp.seq ?_
          obtain ⟨v68, hvK69, hsK71⟩ := bindS hsK71
          refine AWp.cutN [0, 1, 5, 6, 53] [] 0 (lb rfl) (fun τ => τ = { env := [(0, (.d (.list 6 x1))), (1, (.d (.list 1 x2))), (5, (.d (.int .i64 v6))), (6, (.d (.int .i64 v39))), (53, (.d (.bool v68)))], heap := [], n := 54 }) ?_ ?_
          · skip
            obtain ⟨a41, e42, hvK69⟩ := bindS hvK69
            obtain ⟨f43, f44⟩ := gtI e42
            obtain ⟨⟨a45, a46, a47, a48, a49, a50⟩, e51, hvK69⟩ := bindS hvK69
            obtain ⟨f52, f53⟩ := gtI e51
            obtain ⟨a54, e55, hvK69⟩ := bindS hvK69
            obtain ⟨f56, f57⟩ := gtI e55
            obtain ⟨⟨a58, a59, a60, a61, a62, a63⟩, e64, hvK69⟩ := bindS hvK69
            obtain ⟨f65, f66⟩ := gtI e64
            rcases tf (A.zeq a45 a58) with c67 | c67
            · replace hvK69 := cT c67 hvK69
              refine AWp.rd hT hA {} rfl (by (repeat (cbv; simp only [c40, c67, f43, f44, f52, f53, f56, f57, f65, f66])); first | done | cbv) (by kernel_rfl) (lb rfl) ?_
              cases soI hvK69
              exact oNi ⟨rfl, (by first | cbv | ((repeat (cbv; simp only [c40, c67])); first | done | cbv))⟩
            · replace hvK69 := cF c67 hvK69
              refine AWp.rd hT hA {} rfl (by (repeat (cbv; simp only [c40, c67, f43, f44, f52, f53, f56, f57, f65, f66])); first | done | cbv) (by kernel_rfl) (lb rfl) ?_
              cases soI hvK69
              exact oNi ⟨rfl, (by first | cbv | ((repeat (cbv; simp only [c40, c67])); first | done | cbv))⟩
          · rintro _ rfl
            refine nT ?_
            rcases tf v68 with c70 | c70
            · replace hsK71 := cT c70 hsK71
              refine AWp.cdT rfl (by first | rfl | simp only [c70, Bool.not_true, Bool.not_false, cond_true, cond_false]) ?_
              refine AWp.seq ?_
              refine AWp.rg hT hA {} (by (repeat (cbv; simp only [c70])); first | done | cbv) (lb rfl) ?_
              refine nT ?_
              refine AWp.ret ?_
              refine rB ?_
              refine rT ?_
              refine rT ?_
              refine exL hsK71 fun hx => ?_
              subst hx
              refine oxR ?_
              replace hkK71 := (eR (hK71 _ hkK71))
              refine rB ?_
              refine rB ?_
              refine rT ?_
              refine rT ?_
              refine exL hkK71 fun hx => ?_
              subst hx
              refine oxR ?_
              replace hkK72 := (eR (hK72 _ hkK72))
              refine rB ?_
              refine rT ?_
              cases soI hkK72
              exact ⟨rfl, rfl, rfl, lb rfl, _, rfl⟩
            · replace hsK71 := cF c70 hsK71
              refine AWp.cdF rfl (by first | rfl | simp only [c70, Bool.not_true, Bool.not_false, cond_true, cond_false]) ?_
              refine AWp.skip ?_
              refine nB ?_
              refine nT ?_
              refine AWp.rg hT hA {} (by (repeat (cbv; simp only [c70])); first | done | cbv) (lb rfl) ?_
              exact nT ⟨_, (soI hsK71).symm, rfl, (by first | cbv | ((repeat (cbv; simp only [c70])); first | done | cbv))⟩
        · replace hsK71 := cF c40 hsK71
          refine AWp.cdF rfl (by first | rfl | simp only [c40, Bool.not_true, Bool.not_false, cond_true, cond_false]) ?_
          refine AWp.exit ?_
          refine xT ?_
          refine xT ?_
          refine exL hsK71 fun hx => ?_
          subst hx
          exact oxI ⟨rfl, hkK71, (by first | cbv | ((repeat (cbv; simp only [c40])); first | done | cbv))⟩
      · rintro _ ⟨hkK71, rfl⟩
        have hsK72 := (eL (hK71 _ hkK71))
        refine xB ?_
        refine nB ?_
        refine nT ?_
        refine AWp.rg hT hA {} (by cbv) (lb rfl) ?_
        exact nT ⟨_, (soI hsK72).symm, rfl, (by cbv)⟩
    · replace hsK72 := cF c7 hsK72
      refine AWp.cdF rfl (by first | rfl | simp only [c7, Bool.not_true, Bool.not_false, cond_true, cond_false]) ?_
      refine AWp.exit ?_
      refine xT ?_
      refine xT ?_
      refine exL hsK72 fun hx => ?_
      subst hx
      exact oxI ⟨rfl, hkK72, (by first | cbv | ((repeat (cbv; simp only [c7])); first | done | cbv))⟩
  · rintro _ ⟨hkK72, rfl⟩
    have h := (eL (hK72 _ hkK72))
    refine xB ?_
    refine nT ?_
    refine AWp.seq ?_
    refine AWp.rg hT hA {} (by cbv) (lb rfl) ?_
    refine nT ?_
    refine AWp.ret ?_
    cases soI h
    exact ⟨rfl, rfl, rfl, lb rfl, _, rfl⟩

theorem H94aw {A : Ar} (hA : A = Ar.std) {x1 : List D} {x2 : List D} {v71 : Bool} (h : H94a A x1 x2 = some v71) : ACall Try.prog 94 [(.d (.list 6 x1)), (.d (.list 1 x2))] [] (.d (.bool v71)) [] := by
  unfold H94a at h
  refine ACall.enter hT (fn := Try.f94) Try.func94 rfl (by decide) (by simp [Try.f94]) rfl rfl rfl rfl (lb rfl) ?_
  refine AWp.seq ?_
  refine AWp.rg hT hA {} (by cbv) (lb rfl) ?_
  refine nT ?_
  refine AWp.seq ?_
  refine AWp.seq ?_
  refine AWp.rg hT hA {} (by cbv) (lb rfl) ?_
  refine nT ?_
  refine AWp.block ?_
  obtain ⟨xK70, hxK70, K70, hK70, hkK70⟩ := bindK h
  refine AWp.cutX 0 [] [] 0 (lb rfl) (fun τ => K70 (.inl ()) = some v71 ∧ τ = { env := [], heap := [], n := 33 }) ?_ ?_
  · skip
    refine AWp.iter hxK70 [0, 1, 5] [] 0 (lb rfl) (fun v6 => { env := [(0, (.d (.list 6 x1))), (1, (.d (.list 1 x2))), (5, (.d (.int .i64 v6)))], heap := [], n := 33 }) ⟨rfl, (by cbv)⟩ ?_
    rintro v6 eK70 hsK70
    dsimp only [H94aL1] at hsK70
    refine AWp.seq ?_
    refine AWp.seq ?_
    refine AWp.rg hT hA {} (by cbv) (lb rfl) ?_
    refine nT ?_
    rcases tf (A.zlt v6 (A.len x2)) with c7 | c7
    · replace hsK70 := cT c7 hsK70
      refine AWp.cdT rfl (by first | rfl | simp only [c7, Bool.not_true, Bool.not_false, cond_true, cond_false]) ?_
      refine AWp.skip ?_
      refine nT ?_
      refine AWp.seq ?_
      refine AWp.block ?_
      refine AWp.seq ?_
      refine AWp.rg hT hA {} (by (repeat (cbv; simp only [c7])); first | done | cbv) (lb rfl) ?_
      refine nT ?_
      refine AWp.block ?_
      obtain ⟨xK69, hxK69, K69, hK69, hkK69⟩ := bindK hsK70
      refine AWp.cutX 2 [0, 1, 5] [] 0 (lb rfl) (fun τ => K69 (.inl ()) = some eK70 ∧ τ = { env := [(0, (.d (.list 6 x1))), (1, (.d (.list 1 x2))), (5, (.d (.int .i64 v6)))], heap := [], n := 33 }) ?_ ?_
      · skip
        refine AWp.iter hxK69 [0, 1, 5, 6] [] 0 (lb rfl) (fun v38 => { env := [(0, (.d (.list 6 x1))), (1, (.d (.list 1 x2))), (5, (.d (.int .i64 v6))), (6, (.d (.int .i64 v38)))], heap := [], n := 33 }) ⟨rfl, (by first | cbv | ((repeat (cbv; simp only [c7])); first | done | cbv))⟩ ?_
        rintro v38 eK69 hsK69
        dsimp only [H94aL0] at hsK69
        refine AWp.seq ?_
        refine AWp.seq ?_
        refine AWp.rg hT hA {} (by cbv) (lb rfl) ?_
        refine nT ?_
        rcases tf (A.zlt v38 v6) with c39 | c39
        · replace hsK69 := cT c39 hsK69
          refine AWp.cdT rfl (by first | rfl | simp only [c39, Bool.not_true, Bool.not_false, cond_true, cond_false]) ?_
          refine AWp.skip ?_
          refine nT ?_
          refine AWp.seq ?_
          refine AWp.block ?_
          refine AWp.seq ?_
          refine AWp.regionDraw rfl (lb rfl) ?_
          obtain ⟨a40, e41, hsK69⟩ := bindS hsK69
          obtain ⟨f42, f43⟩ := gtI e41
          obtain ⟨⟨a44, a45, a46, a47, a48, a49⟩, e50, hsK69⟩ := bindS hsK69
          obtain ⟨f51, f52⟩ := gtI e50
          obtain ⟨a53, e54, hsK69⟩ := bindS hsK69
          obtain ⟨f55, f56⟩ := gtI e54
          obtain ⟨⟨a57, a58, a59, a60, a61, a62⟩, e63, hsK69⟩ := bindS hsK69
          obtain ⟨f64, f65⟩ := gtI e63
          obtain ⟨r67, e66, hsK69⟩ := bindS hsK69
          refine DOps.c0 hT hA {} rfl (by (repeat (cbv; simp only [c39, f42, f43, f51, f52, f55, f56, f64, f65])); first | done | cbv) (H68w hA e66) rfl rfl (lb rfl) rfl rfl ?_
          refine DOps.cd hT hA {} rfl (by (repeat (cbv; simp only [c39, f42, f43, f51, f52, f55, f56, f64, f65])); first | done | cbv) (by kernel_rfl) ?_
          refine nT ?_
          rcases tf r67 with c68 | c68
          · replace hsK69 := cT c68 hsK69
            refine AWp.cdT rfl (by first | rfl | simp only [c39, c68, Bool.not_true, Bool.not_false, cond_true, cond_false]) ?_
            refine AWp.seq ?_
            refine AWp.rg hT hA {} (by (repeat (cbv; simp only [c39, c68])); first | done | cbv) (lb rfl) ?_
            refine nT ?_
            refine AWp.ret ?_
            refine rB ?_
            refine rT ?_
            refine rT ?_
            refine exL hsK69 fun hx => ?_
            subst hx
            refine oxR ?_
            replace hkK69 := (eR (hK69 _ hkK69))
            refine rB ?_
            refine rB ?_
            refine rT ?_
            refine rT ?_
            refine exL hkK69 fun hx => ?_
            subst hx
            refine oxR ?_
            replace hkK70 := (eR (hK70 _ hkK70))
            refine rB ?_
            refine rT ?_
            cases soI hkK70
            exact ⟨rfl, rfl, rfl, lb rfl, _, rfl⟩
          · replace hsK69 := cF c68 hsK69
            refine AWp.cdF rfl (by first | rfl | simp only [c39, c68, Bool.not_true, Bool.not_false, cond_true, cond_false]) ?_
            refine AWp.skip ?_
            refine nB ?_
            refine nT ?_
            refine AWp.rg hT hA {} (by (repeat (cbv; simp only [c39, c68])); first | done | cbv) (lb rfl) ?_
            exact nT ⟨_, (soI hsK69).symm, rfl, (by first | cbv | ((repeat (cbv; simp only [c39, c68])); first | done | cbv))⟩
        · replace hsK69 := cF c39 hsK69
          refine AWp.cdF rfl (by first | rfl | simp only [c39, Bool.not_true, Bool.not_false, cond_true, cond_false]) ?_
          refine AWp.exit ?_
          refine xT ?_
          refine xT ?_
          refine exL hsK69 fun hx => ?_
          subst hx
          exact oxI ⟨rfl, hkK69, (by first | cbv | ((repeat (cbv; simp only [c39])); first | done | cbv))⟩
      · rintro _ ⟨hkK69, rfl⟩
        have hsK70 := (eL (hK69 _ hkK69))
        refine xB ?_
        refine nB ?_
        refine nT ?_
        refine AWp.rg hT hA {} (by cbv) (lb rfl) ?_
        exact nT ⟨_, (soI hsK70).symm, rfl, (by cbv)⟩
    · replace hsK70 := cF c7 hsK70
      refine AWp.cdF rfl (by first | rfl | simp only [c7, Bool.not_true, Bool.not_false, cond_true, cond_false]) ?_
      refine AWp.exit ?_
      refine xT ?_
      refine xT ?_
      refine exL hsK70 fun hx => ?_
      subst hx
      exact oxI ⟨rfl, hkK70, (by first | cbv | ((repeat (cbv; simp only [c7])); first | done | cbv))⟩
  · rintro _ ⟨hkK70, rfl⟩
    have h := (eL (hK70 _ hkK70))
    refine xB ?_
    refine nT ?_
    refine AWp.seq ?_
    refine AWp.rg hT hA {} (by cbv) (lb rfl) ?_
    refine nT ?_
    refine AWp.ret ?_
    cases soI h
    exact ⟨rfl, rfl, rfl, lb rfl, _, rfl⟩

theorem H76Bw {A : Ar} (hA : A = Ar.std) {self68 : List D → Bool → List D → List D → Bool → Int → List D → (Option (Bool × Int × List D))} (ih68 : ∀ {x1 : List D} {x2 : Bool} {x3 : List D} {x4 : List D} {x5 : Bool} {x6 : Int} {x7 : List D} {y1 : Bool} {y2 : Int} {y3 : List D}, self68 x1 x2 x3 x4 x5 x6 x7 = some (y1, y2, y3) → ACall Try.prog 76 [(.ptr 0 0), (.d (.list 1 x1)), (.d (.bool x2))] [(.cells [(.d (.list 4 x3)), (.d (.list 6 x4)), (.d (.bool x5)), (.d (.int .i64 x6)), (.d (.list 1 x7))])] (.tuple []) [(.cells [(.d (.list 4 x3)), (.d (.list 6 x4)), (.d (.bool y1)), (.d (.int .i64 y2)), (.d (.list 1 y3))])]) {x1 : List D} {x2 : Bool} {x3 : List D} {x4 : List D} {x5 : Bool} {x6 : Int} {x7 : List D} {v106 : Bool} {v107 : Int} {v108 : List D} (h : H76B A self68 x1 x2 x3 x4 x5 x6 x7 = some (v106, v107, v108)) : ACall Try.prog 76 [(.ptr 0 0), (.d (.list 1 x1)), (.d (.bool x2))] [(.cells [(.d (.list 4 x3)), (.d (.list 6 x4)), (.d (.bool x5)), (.d (.int .i64 x6)), (.d (.list 1 x7))])] (.tuple []) [(.cells [(.d (.list 4 x3)), (.d (.list 6 x4)), (.d (.bool v106)), (.d (.int .i64 v107)), (.d (.list 1 v108))])] := by
  unfold H76B at h
  refine ACall.enter hT (fn := Try.f76) Try.func76 rfl (by decide) (by simp [Try.f76]) rfl rfl rfl rfl (lb rfl) ?_
  refine AWp.seq ?_
  refine AWp.seq ?_
  refine AWp.region ?_
  obtain ⟨r9, e8, h⟩ := bindS h
  refine AOps.cc hT hA {} (by cbv) (lb rfl) (H93aw hA e8) rfl (.inr rfl) rfl rfl rfl (lb rfl) rfl rfl ?_
  refine AOps.cd hT hA {} (by cbv) (lb rfl) ?_
  refine nT ?_
  obtain ⟨⟨v18, v19⟩, hvK20, h⟩ := bindS h
  refine AWp.cutN [0, 1, 2] [] 1 (lb rfl) (fun τ => τ = { env := [(0, (.ptr 0 0)), (1, (.d (.list 1 x1))), (2, (.d (.bool x2)))], heap := [(.cells [(.d (.list 4 x3)), (.d (.list 6 x4)), (.d (.bool x5)), (.d (.int .i64 v18)), (.d (.list 1 v19))])], n := 107 }) ?_ ?_
  · skip
    rcases tf r9 with c10 | c10
    · replace hvK20 := cT c10 hvK20
      refine AWp.cdT rfl (by first | rfl | simp only [c10, Bool.not_true, Bool.not_false, cond_true, cond_false]) ?_
      refine AWp.seq ?_
      refine AWp.seq ?_
      refine AWp.rg hT hA {} (by (repeat (cbv; simp only [c10])); first | done | cbv) (lb rfl) ?_
      refine nT ?_
      obtain ⟨v16, hvK17, hvK20⟩ := bindS hvK20
      refine AWp.cutN [0, 1, 2] [] 1 (lb rfl) (fun τ => τ = { env := [(0, (.ptr 0 0)), (1, (.d (.list 1 x1))), (2, (.d (.bool x2)))], heap := [(.cells [(.d (.list 4 x3)), (.d (.list 6 x4)), (.d (.bool x5)), (.d (.int .i64 x6)), (.d (.list 1 v16))])], n := 107 }) ?_ ?_
      · skip
        rcases tf (A.zeq x6 0) with c11 | c11
        · replace hvK17 := cT c11 hvK17
          refine AWp.cdT rfl (by first | rfl | simp only [c10, c11, Bool.not_true, Bool.not_false, cond_true, cond_false]) ?_
          obtain ⟨l12, e13, hvK17⟩ := bindS hvK17
          obtain ⟨f14, f15⟩ := apI e13
          refine AWp.rg hT hA {} (by (repeat (cbv; simp only [c10, c11, f14, f15])); first | done | cbv) (lb rfl) ?_
          cases soI hvK17
          exact oNi ⟨rfl, (by first | cbv | ((repeat (cbv; simp only [c10, c11])); first | done | cbv))⟩
        · replace hvK17 := cF c11 hvK17
          refine AWp.cdF rfl (by first | rfl | simp only [c10, c11, Bool.not_true, Bool.not_false, cond_true, cond_false]) ?_
          refine AWp.skip ?_
          cases soI hvK17
          exact oNi ⟨rfl, (by first | cbv | ((repeat (cbv; simp only [c10, c11])); first | done | cbv))⟩
      · rintro _ rfl
        refine nT ?_
        refine AWp.rg hT hA {} (by cbv) (lb rfl) ?_
        cases soI hvK20
        exact oNi ⟨rfl, (by cbv)⟩
    · replace hvK20 := cF c10 hvK20
      refine AWp.cdF rfl (by first | rfl | simp only [c10, Bool.not_true, Bool.not_false, cond_true, cond_false]) ?_
      refine AWp.skip ?_
      cases soI hvK20
      exact oNi ⟨rfl, (by first | cbv | ((repeat (cbv; simp only [c10])); first | done | cbv))⟩
  · rintro _ rfl
    refine nT ?_
    refine AWp.seq ?_
    refine AWp.rg hT hA {} (by cbv) (lb rfl) ?_
    refine nT ?_
    refine AWp.block ?_
    obtain ⟨xK105, hxK105, K105, hK105, hkK105⟩ := bindK h
    refine AWp.cutX 0 [] [] 1 (lb rfl) (fun τ => ∃ v102 v103 v104, K105 (v102, v103, v104) = some (v106, v107, v108) ∧ τ = { env := [], heap := [(.cells [(.d (.list 4 x3)), (.d (.list 6 x4)), (.d (.bool v102)), (.d (.int .i64 v103)), (.d (.list 1 v104))])], n := 107 }) ?_ ?_
    · skip
      refine AWp.iter hxK105 [0, 1, 2, 6] [] 1 (lb rfl) (fun (v59, v60, v61, v62, v63) => { env := [(0, (.ptr 0 0)), (1, (.d (.list 1 x1))), (2, (.d (.bool v59))), (6, (.d (.int .i64 v60)))], heap := [(.cells [(.d (.list 4 x3)), (.d (.list 6 x4)), (.d (.bool v61)), (.d (.int .i64 v62)), (.d (.list 1 v63))])], n := 107 }) ⟨rfl, (by cbv)⟩ ?_
      rintro ⟨v59, v60, v61, v62, v63⟩ eK105 hsK105
      dsimp only [H76L0] at hsK105
      refine AWp.seq ?_
      refine AWp.seq ?_
      obtain ⟨⟨v66, v67⟩, hvK68, hsK105⟩ := bindS hsK105
      refine AWp.cutN [0, 1, 2, 6, 49] [] 1 (lb rfl) (fun τ => τ = { env := [(0, (.ptr 0 0)), (1, (.d (.list 1 x1))), (2, (.d (.bool v66))), (6, (.d (.int .i64 v60))), (49, (.d (.bool v67)))], heap := [(.cells [(.d (.list 4 x3)), (.d (.list 6 x4)), (.d (.bool v61)), (.d (.int .i64 v62)), (.d (.list 1 v63))])], n := 107 }) ?_ ?_
      · skip
        rcases tf (A.zlt v60 (A.len x4)) with c64 | c64
        · replace hvK68 := cT c64 hvK68
          rcases tf v59 with c65 | c65
          · replace hvK68 := cT c65 hvK68
            refine AWp.rg hT hA {} (by (repeat (cbv; simp only [c64, c65])); first | done | cbv) (lb rfl) ?_
            cases soI hvK68
            exact oNi ⟨rfl, (by first | cbv | ((repeat (cbv; simp only [c64, c65])); first | done | cbv))⟩
          · replace hvK68 := cF c65 hvK68
            refine AWp.rg hT hA {} (by (repeat (cbv; simp only [c64, c65])); first | done | cbv) (lb rfl) ?_
            cases soI hvK68
            exact oNi ⟨rfl, (by first | cbv | ((repeat (cbv; simp only [c64, c65])); first | done | cbv))⟩
        · replace hvK68 := cF c64 hvK68
          refine AWp.rg hT hA {} (by (repeat (cbv; simp only [c64])); first | done | cbv) (lb rfl) ?_
          cases soI hvK68
          exact oNi ⟨rfl, (by first | cbv | ((repeat (cbv; simp only [c64])); first | done | cbv))⟩
      · rintro _ rfl
        refine nT ?_
        rcases tf v67 with c69 | c69
        · replace hsK105 := cT c69 hsK105
          refine AWp.cdT rfl (by first | rfl | simp only [c69, Bool.not_true, Bool.not_false, cond_true, cond_false]) ?_
          refine AWp.skip ?_
          refine nT ?_
          refine AWp.seq ?_
          refine AWp.block ?_
          refine AWp.seq ?_
          obtain ⟨l70, e71, hsK105⟩ := bindS hsK105
          obtain ⟨f72, f73⟩ := apI e71
          obtain ⟨l74, e75, hsK105⟩ := bindS hsK105
          obtain ⟨f76, f77⟩ := apI e75
          refine AWp.rg hT hA {} (by (repeat (cbv; simp only [c69, f72, f73, f76, f77])); first | done | cbv) (lb rfl) ?_
          refine nT ?_
          refine AWp.seq ?_
          obtain ⟨⟨v90, v91⟩, hvK92, hsK105⟩ := bindS hsK105
          refine AWp.cutN [0, 1, 2, 6, 7, 102] [] 1 (lb rfl) (fun τ => τ = { env := [(0, (.ptr 0 0)), (1, (.d (.list 1 x1))), (2, (.d (.bool v66))), (6, (.d (.int .i64 v60))), (7, (.d (.list 1 l74))), (102, (.d (.bool v90)))], heap := [(.cells [(.d (.list 4 x3)), (.d (.list 6 x4)), (.d (.bool v91)), (.d (.int .i64 v62)), (.d (.list 1 v63))])], n := 107 }) ?_ ?_
          · skip
            refine AWp.regionDraw rfl (lb rfl) ?_
            obtain ⟨r79, e78, hvK92⟩ := bindS hvK92
            refine DOps.c0 hT hA {} rfl (by (repeat (cbv; simp only [c69])); first | done | cbv) (H117aw hA e78) rfl rfl (lb rfl) rfl rfl ?_
            rcases tf r79 with c80 | c80
            · replace hvK92 := cT c80 hvK92
              refine DOps.cd hT hA {} rfl (by (repeat (cbv; simp only [c69, c80])); first | done | cbv) (by kernel_rfl) ?_
              cases soI hvK92
              exact oNi ⟨rfl, (by first | cbv | ((repeat (cbv; simp only [c69, c80])); first | done | cbv))⟩
            · replace hvK92 := cF c80 hvK92
              obtain ⟨r82, e81, hvK92⟩ := bindS hvK92
              refine DOps.c0 hT hA {} rfl (by (repeat (cbv; simp only [c69, c80])); first | done | cbv) (H95aw hA e81) rfl rfl (lb rfl) rfl rfl ?_
              rcases tf r82 with c83 | c83
              · replace hvK92 := cT c83 hvK92
                rcases tf v61 with c84 | c84
                · replace hvK92 := cT c84 hvK92
                  obtain ⟨r86, e85, hvK92⟩ := bindS hvK92
                  refine DOps.c0 hT hA {} rfl (by (repeat (cbv; simp only [c69, c80, c83, c84])); first | done | cbv) (H108aw hA e85) rfl rfl (lb rfl) rfl rfl ?_
                  rcases tf r86 with c87 | c87
                  · replace hvK92 := cT c87 hvK92
                    refine DOps.cd hT hA {} rfl (by (repeat (cbv; simp only [c69, c80, c83, c84, c87])); first | done | cbv) (by kernel_rfl) ?_
                    cases soI hvK92
                    exact oNi ⟨rfl, (by first | cbv | ((repeat (cbv; simp only [c69, c80, c83, c84, c87])); first | done | cbv))⟩
                  · replace hvK92 := cF c87 hvK92
                    refine DOps.cd hT hA {} rfl (by (repeat (cbv; simp only [c69, c80, c83, c84, c87])); first | done | cbv) (by kernel_rfl) ?_
                    cases soI hvK92
                    exact oNi ⟨rfl, (by first | cbv | ((repeat (cbv; simp only [c69, c80, c83, c84, c87])); first | done | cbv))⟩
                · replace hvK92 := cF c84 hvK92
                  obtain ⟨r89, e88, hvK92⟩ := bindS hvK92
                  refine DOps.c0 hT hA {} rfl (by (repeat (cbv; simp only [c69, c80, c83, c84])); first | done | cbv) (H94aw hA e88) rfl rfl (lb rfl) rfl rfl ?_
                  refine DOps.cd hT hA {} rfl (by (repeat (cbv; simp only [c69, c80, c83, c84])); first | done | cbv) (by kernel_rfl) ?_
                  cases soI hvK92
                  exact oNi ⟨rfl, (by first | cbv | ((repeat (cbv; simp only [c69, c80, c83, c84])); first | done | cbv))⟩
              · replace hvK92 := cF c83 hvK92
                refine DOps.cd hT hA {} rfl (by (repeat (cbv; simp only [c69, c80, c83])); first | done | cbv) (by kernel_rfl) ?_
                cases soI hvK92
                exact oNi ⟨rfl, (by first | cbv | ((repeat (cbv; simp only [c69, c80, c83])); first | done | cbv))⟩
          · rintro _ rfl
            refine nT ?_
            obtain ⟨⟨v98, v99, v100⟩, hvK101, hsK105⟩ := bindS hsK105
            refine AWp.cutN [0, 1, 2, 6] [] 1 (lb rfl) (fun τ => τ = { env := [(0, (.ptr 0 0)), (1, (.d (.list 1 x1))), (2, (.d (.bool v66))), (6, (.d (.int .i64 v60)))], heap := [(.cells [(.d (.list 4 x3)), (.d (.list 6 x4)), (.d (.bool v98)), (.d (.int .i64 v99)), (.d (.list 1 v100))])], n := 107 }) ?_ ?_
            · skip
              rcases tf v90 with c93 | c93
              · replace hvK101 := cT c93 hvK101
                refine AWp.cdT rfl (by first | rfl | simp only [c93, Bool.not_true, Bool.not_false, cond_true, cond_false]) ?_
                refine AWp.region ?_
                obtain ⟨⟨r95, r96, r97⟩, e94, hvK101⟩ := bindS hvK101
                refine AOps.cc hT hA {} (by (repeat (cbv; simp only [c93])); first | done | cbv) (lb rfl) (ih68 e94) rfl (.inl rfl) rfl rfl rfl (lb rfl) rfl rfl ?_
                refine AOps.cd hT hA {} (by (repeat (cbv; simp only [c93])); first | done | cbv) (lb rfl) ?_
                cases soI hvK101
                exact oNi ⟨rfl, (by first | cbv | ((repeat (cbv; simp only [c93])); first | done | cbv))⟩
              · replace hvK101 := cF c93 hvK101
                refine AWp.cdF rfl (by first | rfl | simp only [c93, Bool.not_true, Bool.not_false, cond_true, cond_false]) ?_
                refine AWp.skip ?_
                cases soI hvK101
                exact oNi ⟨rfl, (by first | cbv | ((repeat (cbv; simp only [c93])); first | done | cbv))⟩
            · rintro _ rfl
              refine nB ?_
              refine nT ?_
              refine AWp.rg hT hA {} (by cbv) (lb rfl) ?_
              exact nT ⟨_, (soI hsK105).symm, rfl, (by cbv)⟩
        · replace hsK105 := cF c69 hsK105
          refine AWp.cdF rfl (by first | rfl | simp only [c69, Bool.not_true, Bool.not_false, cond_true, cond_false]) ?_
          refine AWp.exit ?_
          refine xT ?_
          refine xT ?_
          refine exL hsK105 fun hx => ?_
          subst hx
          exact oxI ⟨rfl, _, _, _, hkK105, (by first | cbv | ((repeat (cbv; simp only [c69])); first | done | cbv))⟩
    · rintro _ ⟨v102, v103, v104, hkK105, rfl⟩
      have h := (hK105 _ hkK105)
      refine xB ?_
      cases soI h
      exact ⟨rfl, rfl, rfl, lb rfl, _, rfl⟩

theorem H76Rw {A : Ar} (hA : A = Ar.std) : ∀ (n : Nat) {x1 : List D} {x2 : Bool} {x3 : List D} {x4 : List D} {x5 : Bool} {x6 : Int} {x7 : List D} {v106 : Bool} {v107 : Int} {v108 : List D}, H76R A n x1 x2 x3 x4 x5 x6 x7 = some (v106, v107, v108) → ACall Try.prog 76 [(.ptr 0 0), (.d (.list 1 x1)), (.d (.bool x2))] [(.cells [(.d (.list 4 x3)), (.d (.list 6 x4)), (.d (.bool x5)), (.d (.int .i64 x6)), (.d (.list 1 x7))])] (.tuple []) [(.cells [(.d (.list 4 x3)), (.d (.list 6 x4)), (.d (.bool v106)), (.d (.int .i64 v107)), (.d (.list 1 v108))])]
  | 0, _, _, _, _, _, _, _, _, _, _, h => by cases h
  | n + 1, _, _, _, _, _, _, _, _, _, _, h => H76Bw hA (fun h => H76Rw hA n h) h

theorem H76w {A : Ar} (hA : A = Ar.std) {x1 : List D} {x2 : Bool} {x3 : List D} {x4 : List D} {x5 : Bool} {x6 : Int} {x7 : List D} {v106 : Bool} {v107 : Int} {v108 : List D} (h : H76 A x1 x2 x3 x4 x5 x6 x7 = some (v106, v107, v108)) : ACall Try.prog 76 [(.ptr 0 0), (.d (.list 1 x1)), (.d (.bool x2))] [(.cells [(.d (.list 4 x3)), (.d (.list 6 x4)), (.d (.bool x5)), (.d (.int .i64 x6)), (.d (.list 1 x7))])] (.tuple []) [(.cells [(.d (.list 4 x3)), (.d (.list 6 x4)), (.d (.bool v106)), (.d (.int .i64 v107)), (.d (.list 1 v108))])] := H76Rw hA fuel h

theorem H55w {A : Ar} (hA : A = Ar.std) {x1 : List D} {x2 : List D} {v11 : List D} {v12 : Int} (h : H55 A x1 x2 = some (v11, v12)) : ACall Try.prog 55 [(.d (.list 4 x1)), (.d (.list 6 x2))] [] (.tuple [(.d (.list 1 v11)), (.d (.int .i64 v12))]) [] := by
  unfold H55 at h
  refine ACall.enter hT (fn := Try.f55) Try.func55 rfl (by decide) (by simp [Try.f55]) rfl rfl rfl rfl (lb rfl) ?_
  refine AWp.seq ?_
  refine AWp.rg hT hA {} (by cbv) (lb rfl) ?_
  refine nT ?_
  refine AWp.seq ?_
  refine AWp.region ?_
  obtain ⟨r4, e3, h⟩ := bindS h
  refine AOps.cc hT hA {} (by cbv) (lb rfl) (H75w hA e3) rfl (.inl rfl) rfl rfl rfl (lb rfl) rfl rfl ?_
  refine AOps.cd hT hA {} (by cbv) (lb rfl) ?_
  refine nT ?_
  refine AWp.seq ?_
  refine AWp.seq ?_
  refine AWp.rg hT hA {} (by cbv) (lb rfl) ?_
  refine nT ?_
  rcases tf (A.zeq r4 0) with c5 | c5
  · replace h := cT c5 h
    refine AWp.cdF rfl (by first | rfl | simp only [c5, Bool.not_true, Bool.not_false, cond_true, cond_false]) ?_
    refine AWp.skip ?_
    refine nT ?_
    refine AWp.seq ?_
    refine AWp.rg hT hA { esc := [17] } (by (repeat (cbv; simp only [c5])); first | done | cbv) (lb rfl) ?_
    refine nT ?_
    refine AWp.seq ?_
    refine AWp.region ?_
    obtain ⟨⟨r7, r8, r9⟩, e6, h⟩ := bindS h
    refine AOps.cc hT hA {} (by (repeat (cbv; simp only [c5])); first | done | cbv) (lb rfl) (H76w hA e6) rfl (.inl rfl) rfl rfl rfl (lb rfl) rfl rfl ?_
    refine AOps.cd hT hA {} (by (repeat (cbv; simp only [c5])); first | done | cbv) (lb rfl) ?_
    refine nT ?_
    refine AWp.seq ?_
    refine AWp.seq ?_
    refine AWp.rg hT hA {} (by (repeat (cbv; simp only [c5])); first | done | cbv) (lb rfl) ?_
    refine nT ?_
    rcases tf (A.zeq r8 0) with c10 | c10
    · replace h := cT c10 h
      refine AWp.cdT rfl (by first | rfl | simp only [c5, c10, Bool.not_true, Bool.not_false, cond_true, cond_false]) ?_
      refine AWp.seq ?_
      refine AWp.rg hT hA {} (by (repeat (cbv; simp only [c5, c10])); first | done | cbv) (lb rfl) ?_
      refine nT ?_
      refine AWp.ret ?_
      refine rT ?_
      cases soI h
      exact ⟨rfl, rfl, rfl, lb rfl, _, rfl⟩
    · replace h := cF c10 h
      refine AWp.cdF rfl (by first | rfl | simp only [c5, c10, Bool.not_true, Bool.not_false, cond_true, cond_false]) ?_
      refine AWp.skip ?_
      refine nT ?_
      refine AWp.seq ?_
      refine AWp.rg hT hA {} (by (repeat (cbv; simp only [c5, c10])); first | done | cbv) (lb rfl) ?_
      refine nT ?_
      refine AWp.ret ?_
      cases soI h
      exact ⟨rfl, rfl, rfl, lb rfl, _, rfl⟩
  · replace h := cF c5 h
    refine AWp.cdT rfl (by first | rfl | simp only [c5, Bool.not_true, Bool.not_false, cond_true, cond_false]) ?_
    refine AWp.seq ?_
    refine AWp.rg hT hA {} (by (repeat (cbv; simp only [c5])); first | done | cbv) (lb rfl) ?_
    refine nT ?_
    refine AWp.ret ?_
    refine rT ?_
    cases soI h
    exact ⟨rfl, rfl, rfl, lb rfl, _, rfl⟩

theorem H27w {A : Ar} (hA : A = Ar.std) {x1 : List D} {x2 : List D} {v7 : Bool} {v8 : Int} (h : H27 A x1 x2 = some (v7, v8)) : ACall Try.prog 27 [(.d (.list 4 x1)), (.d (.list 6 x2))] [] (.tuple [(.d (.bool v7)), (.d (.int .i64 v8))]) [] := by
  unfold H27 at h
  refine ACall.enter hT (fn := Try.f27) Try.func27 rfl (by decide) (by simp [Try.f27]) rfl rfl rfl rfl (lb rfl) ?_
  refine AWp.seq ?_
  refine AWp.rg hT hA {} (by cbv) (lb rfl) ?_
  refine nT ?_
  refine AWp.seq ?_
  refine AWp.region ?_
  obtain ⟨⟨r4, r5⟩, e3, h⟩ := bindS h
  refine AOps.cc hT hA {} (by cbv) (lb rfl) (H55w hA e3) rfl (.inl rfl) rfl rfl rfl (lb rfl) rfl rfl ?_
  refine AOps.cd hT hA {} (by cbv) (lb rfl) ?_
  refine nT ?_
  refine AWp.seq ?_
  refine AWp.seq ?_
  refine AWp.rg hT hA {} (by cbv) (lb rfl) ?_
  refine nT ?_
  rcases tf (A.zeq r5 5) with c6 | c6
  · replace h := cT c6 h
    refine AWp.cdT rfl (by first | rfl | simp only [c6, Bool.not_true, Bool.not_false, cond_true, cond_false]) ?_
    refine AWp.seq ?_
    refine AWp.rg hT hA {} (by (repeat (cbv; simp only [c6])); first | done | cbv) (lb rfl) ?_
    refine nT ?_
    refine AWp.ret ?_
    refine rT ?_
    cases soI h
    exact ⟨rfl, rfl, rfl, lb rfl, _, rfl⟩
  · replace h := cF c6 h
    refine AWp.cdF rfl (by first | rfl | simp only [c6, Bool.not_true, Bool.not_false, cond_true, cond_false]) ?_
    refine AWp.skip ?_
    refine nT ?_
    refine AWp.seq ?_
    refine AWp.rg hT hA {} (by (repeat (cbv; simp only [c6])); first | done | cbv) (lb rfl) ?_
    refine nT ?_
    refine AWp.ret ?_
    cases soI h
    exact ⟨rfl, rfl, rfl, lb rfl, _, rfl⟩

theorem H72aw {A : Ar} (hA : A = Ar.std) {x1 : List D} {x2 : List D} {v3 : List D} {v4 : List D} (h : H72a A x1 x2 = some (v3, v4)) : ACall Try.prog 72 [(.d (.list 4 x1)), (.d (.list 6 x2)), (.func 73 [] [])] [] (.ptr 1 0) [(.map true [.int .u8, .int .i64, .int .i64] []), (.cells [(.d (.list 4 v3)), (.d (.list 6 v4)), (.func 73 [] []), (.map 0)])] := by
  unfold H72a at h
  refine ACall.enter hT (fn := Try.f72) Try.func72 rfl (by decide) (by simp [Try.f72]) rfl rfl rfl rfl (lb rfl) ?_
  refine AWp.seq ?_
  refine AWp.rg hT hA {} (by cbv) (lb rfl) ?_
  refine nT ?_
  refine AWp.seq ?_
  refine AWp.rg hT hA { tk := [12], esc := [12] } (by cbv) (lb rfl) ?_
  refine nT ?_
  refine AWp.ret ?_
  cases soI h
  exact ⟨rfl, rfl, rfl, lb rfl, _, rfl⟩

theorem H115cw {A : Ar} (hA : A = Ar.std) {x1 : Int} {x2 : Int} {x3 : Int} {x4 : List (D × D)} {x5 : List D} {x6 : List D} {v41 : Bool} (h : H115c A x1 x2 x3 x4 x5 x6 = some v41) : ACall Try.prog 115 [(.ptr 1 0), (.d (.agg [(.int .u8 x1), (.int .i64 x2), (.int .i64 x3)]))] [(.map true [.int .u8, .int .i64, .int .i64] x4), (.cells [(.d (.list 4 x5)), (.d (.list 6 x6)), (.func 73 [] []), (.map 0)])] (.d (.bool v41)) [(.map true [.int .u8, .int .i64, .int .i64] x4), (.cells [(.d (.list 4 x5)), (.d (.list 6 x6)), (.func 73 [] []), (.map 0)])] := by
  unfold H115c at h
  refine ACall.enter hT (fn := Try.f115) Try.func115 rfl (by decide) (by simp [Try.f115]) rfl rfl rfl rfl (lb rfl) ?_
  refine AWp.seq ?_
  refine AWp.rg hT hA {} (by cbv) (lb rfl) ?_
  refine nT ?_
  refine AWp.seq ?_
  refine AWp.seq ?_
  refine AWp.rg hT hA {} (by cbv) (lb rfl) ?_
  refine nT ?_
  refine AWp.block ?_
  obtain ⟨xK40, hxK40, K40, hK40, hkK40⟩ := bindK h
  refine AWp.cutX 0 [] [] 2 (lb rfl) (fun τ => K40 (.inl ()) = some v41 ∧ τ = { env := [], heap := [(.map true [.int .u8, .int .i64, .int .i64] x4), (.cells [(.d (.list 4 x5)), (.d (.list 6 x6)), (.func 73 [] []), (.map 0)])], n := 28 }) ?_ ?_
  · skip
    refine AWp.iter hxK40 [3, 10, 11, 12] [] 2 (lb rfl) (fun v23 => { env := [(3, (.lbox [(.d (.int .u8 x1)), (.d (.int .i64 x2)), (.d (.int .i64 x3))])), (10, (.d (.list 6 x6))), (11, (.d (.int .i64 (A.len x6)))), (12, (.d (.int .i64 v23)))], heap := [(.map true [.int .u8, .int .i64, .int .i64] x4), (.cells [(.d (.list 4 x5)), (.d (.list 6 x6)), (.func 73 [] []), (.map 0)])], n := 28 }) ⟨rfl, (by cbv)⟩ ?_
    rintro v23 eK40 hsK40
    dsimp only [H115cL0] at hsK40
    refine AWp.seq ?_
    refine AWp.rg hT hA {} (by cbv) (lb rfl) ?_
    refine nT ?_
    refine AWp.seq ?_
    rcases tf (A.zlt v23 (A.len x6)) with c24 | c24
    · replace hsK40 := cT c24 hsK40
      refine AWp.cdT rfl (by first | rfl | simp only [c24, Bool.not_true, Bool.not_false, cond_true, cond_false]) ?_
      refine AWp.skip ?_
      refine nT ?_
      refine AWp.seq ?_
      refine AWp.block ?_
      refine AWp.seq ?_
      obtain ⟨⟨a25, a26, a27, a28, a29, a30⟩, e31, hsK40⟩ := bindS hsK40
      obtain ⟨f32, f33⟩ := gtI e31
      refine AWp.rg hT hA { tk := [16] } (by (repeat (cbv; simp only [c24, f32, f33])); first | done | cbv) (lb rfl) ?_
      refine nT ?_
      refine AWp.seq ?_
      obtain ⟨v37, hvK38, hsK40⟩ := bindS hsK40
      refine AWp.cutN [3, 10, 11, 12, 26] [] 2 (lb rfl) (fun τ => τ = { env := [(3, (.lbox [(.d (.int .u8 x1)), (.d (.int .i64 x2)), (.d (.int .i64 x3))])), (10, (.d (.list 6 x6))), (11, (.d (.int .i64 (A.len x6)))), (12, (.d (.int .i64 v23))), (26, (.d (.bool v37)))], heap := [(.map true [.int .u8, .int .i64, .int .i64] x4), (.cells [(.d (.list 4 x5)), (.d (.list 6 x6)), (.func 73 [] []), (.map 0)])], n := 28 }) ?_ ?_
      · skip
        refine AWp.region ?_
        rcases tf (A.zlt 0 a30) with c34 | c34
        · replace hvK38 := cT c34 hvK38
          obtain ⟨r36, e35, hvK38⟩ := bindS hvK38
          refine AOps.cc hT hA {} (by (repeat (cbv; simp only [c24, c34])); first | done | cbv) (lb rfl) (H124aw hA e35) rfl (.inr rfl) rfl rfl rfl (lb rfl) rfl rfl ?_
          refine AOps.cd hT hA {} (by (repeat (cbv; simp only [c24, c34])); first | done | cbv) (lb rfl) ?_
          cases soI hvK38
          exact oNi ⟨rfl, (by first | cbv | ((repeat (cbv; simp only [c24, c34])); first | done | cbv))⟩
        · replace hvK38 := cF c34 hvK38
          refine AOps.cd hT hA {} (by (repeat (cbv; simp only [c24, c34])); first | done | cbv) (lb rfl) ?_
          cases soI hvK38
          exact oNi ⟨rfl, (by first | cbv | ((repeat (cbv; simp only [c24, c34])); first | done | cbv))⟩
      · rintro _ rfl
        refine nT ?_
        rcases tf v37 with c39 | c39
        · replace hsK40 := cT c39 hsK40
          refine AWp.cdT rfl (by first | rfl | simp only [c39, Bool.not_true, Bool.not_false, cond_true, cond_false]) ?_
          refine AWp.seq ?_
          refine AWp.rg hT hA {} (by (repeat (cbv; simp only [c39])); first | done | cbv) (lb rfl) ?_
          refine nT ?_
          refine AWp.ret ?_
          refine rB ?_
          refine rT ?_
          refine rT ?_
          refine exL hsK40 fun hx => ?_
          subst hx
          refine oxR ?_
          replace hkK40 := (eR (hK40 _ hkK40))
          refine rB ?_
          refine rT ?_
          cases soI hkK40
          exact ⟨rfl, rfl, rfl, lb rfl, _, rfl⟩
        · replace hsK40 := cF c39 hsK40
          refine AWp.cdF rfl (by first | rfl | simp only [c39, Bool.not_true, Bool.not_false, cond_true, cond_false]) ?_
          refine AWp.skip ?_
          refine nB ?_
          refine nT ?_
          refine AWp.rg hT hA {} (by (repeat (cbv; simp only [c39])); first | done | cbv) (lb rfl) ?_
          exact nT ⟨_, (soI hsK40).symm, rfl, (by first | cbv | ((repeat (cbv; simp only [c39])); first | done | cbv))⟩
    · replace hsK40 := cF c24 hsK40
      refine AWp.cdF rfl (by first | rfl | simp only [c24, Bool.not_true, Bool.not_false, cond_true, cond_false]) ?_
      refine AWp.exit ?_
      refine xT ?_
      refine xT ?_
      refine exL hsK40 fun hx => ?_
      subst hx
      exact oxI ⟨rfl, hkK40, (by first | cbv | ((repeat (cbv; simp only [c24])); first | done | cbv))⟩
  · rintro _ ⟨hkK40, rfl⟩
    have h := (eL (hK40 _ hkK40))
    refine xB ?_
    refine nT ?_
    refine AWp.seq ?_
    refine AWp.rg hT hA {} (by cbv) (lb rfl) ?_
    refine nT ?_
    refine AWp.ret ?_
    cases soI h
    exact ⟨rfl, rfl, rfl, lb rfl, _, rfl⟩

theorem H116hw {A : Ar} (hA : A = Ar.std) {x1 : Int} {x2 : Int} {x3 : Int} {x4 : List (D × D)} {x5 : List D} {x6 : List D} {x7 : Int} {v8 : Int} {v9 : Int} {v10 : Int} (h : H116h A x1 x2 x3 x4 x5 x6 x7 = some (v8, v9, v10)) : ACall Try.prog 116 [(.ptr 1 0), (.d (.agg [(.int .u8 x1), (.int .i64 x2), (.int .i64 x3)]))] [(.map true [.int .u8, .int .i64, .int .i64] x4), (.cells [(.d (.list 4 x5)), (.d (.list 6 x6)), (.func 73 [] []), (.map 0)]), (.cells [(.ptr 1 0)]), (.cells [(.d (.int .i64 x7))])] (.func 125 [] [(.ptr 4 0), (.ptr 5 0)]) [(.map true [.int .u8, .int .i64, .int .i64] x4), (.cells [(.d (.list 4 x5)), (.d (.list 6 x6)), (.func 73 [] []), (.map 0)]), (.cells [(.ptr 1 0)]), (.cells [(.d (.int .i64 x7))]), (.cells [(.ptr 1 0)]), (.cells [(.d (.int .u8 v8)), (.d (.int .i64 v9)), (.d (.int .i64 v10))])] := by
  unfold H116h at h
  refine ACall.enter hT (fn := Try.f116) Try.func116 rfl (by decide) (by simp [Try.f116]) rfl rfl rfl rfl (lb rfl) ?_
  refine AWp.seq ?_
  refine AWp.rg hT hA { esc := [2, 3] } (by cbv) (lb rfl) ?_
  refine nT ?_
  refine AWp.seq ?_
  refine AWp.rg hT hA { tk := [5] } (by cbv) (lb rfl) ?_
  refine nT ?_
  refine AWp.ret ?_
  cases soI h
  exact ⟨rfl, rfl, rfl, lb rfl, _, rfl⟩

theorem H73aw {A : Ar} (hA : A = Ar.std) {x1 : Int} {x2 : Int} {x3 : Int} {x4 : Int} {x5 : Int} {x6 : Int} {x7 : Int} {x8 : Int} {x9 : Int} {x10 : Int} {x11 : Int} {x12 : Int} {v16 : Bool} (h : H73a A x1 x2 x3 x4 x5 x6 x7 x8 x9 x10 x11 x12 = some v16) : ACall Try.prog 73 [(.d (.agg [(.int .i64 x1), (.int .i64 x2), (.int .i64 x3), (.int .i64 x4), (.int .i64 x5), (.int .i64 x6)])), (.d (.agg [(.int .i64 x7), (.int .i64 x8), (.int .i64 x9), (.int .i64 x10), (.int .i64 x11), (.int .i64 x12)]))] [] (.d (.bool v16)) [] := by
  unfold H73a at h
  refine ACall.enter hT (fn := Try.f73) Try.func73 rfl (by decide) (by simp [Try.f73]) rfl rfl rfl rfl (lb rfl) ?_
  refine AWp.seq ?_
  refine AWp.rg hT hA {} (by cbv) (lb rfl) ?_
  refine nT ?_
  refine AWp.seq ?_
  obtain ⟨v14, hvK15, h⟩ := bindS h
  refine AWp.cutN [4] [] 0 (lb rfl) (fun τ => τ = { env := [(4, (.d (.bool v14)))], heap := [], n := 17 }) ?_ ?_
  · skip
    rcases tf (A.zeq x1 x7) with c13 | c13
    · replace hvK15 := cT c13 hvK15
      refine AWp.rg hT hA { tk := [16] } (by (repeat (cbv; simp only [c13])); first | done | cbv) (lb rfl) ?_
      cases soI hvK15
      exact oNi ⟨rfl, (by first | cbv | ((repeat (cbv; simp only [c13])); first | done | cbv))⟩
    · replace hvK15 := cF c13 hvK15
      refine AWp.rg hT hA { tk := [16] } (by (repeat (cbv; simp only [c13])); first | done | cbv) (lb rfl) ?_
      cases soI hvK15
      exact oNi ⟨rfl, (by first | cbv | ((repeat (cbv; simp only [c13])); first | done | cbv))⟩
  · rintro _ rfl
    refine nT ?_
    refine AWp.ret ?_
    cases soI h
    exact ⟨rfl, rfl, rfl, lb rfl, _, rfl⟩

theorem H125dw {A : Ar} (hA : A = Ar.std) {self81 : Int → Int → Int → (List (D × D)) → List D → List D → (Option (Int × List (D × D)))} (ih81 : ∀ {x1 : Int} {x2 : Int} {x3 : Int} {x4 : List (D × D)} {x5 : List D} {x6 : List D} {y1 : Int} {y2 : List (D × D)}, self81 x1 x2 x3 x4 x5 x6 = some (y1, y2) → ACall Try.prog 74 [(.ptr 1 0), (.d (.agg [(.int .u8 x1), (.int .i64 x2), (.int .i64 x3)]))] [(.map true [.int .u8, .int .i64, .int .i64] x4), (.cells [(.d (.list 4 x5)), (.d (.list 6 x6)), (.func 73 [] []), (.map 0)])] (.d (.int .i64 y1)) [(.map true [.int .u8, .int .i64, .int .i64] y2), (.cells [(.d (.list 4 x5)), (.d (.list 6 x6)), (.func 73 [] []), (.map 0)])]) {x1 : List (D × D)} {x2 : List D} {x3 : List D} {x4 : Int} {x5 : Int} {x6 : Int} {x7 : Int} {v155 : List (D × D)} {v156 : Int} (h : H125d A self81 x1 x2 x3 x4 x5 x6 x7 = some (v155, v156)) : ACall Try.prog 125 [(.yield 6), (.ptr 4 0), (.ptr 5 0)] [(.map true [.int .u8, .int .i64, .int .i64] x1), (.cells [(.d (.list 4 x2)), (.d (.list 6 x3)), (.func 73 [] []), (.map 0)]), (.cells [(.ptr 1 0)]), (.cells [(.d (.int .i64 x4))]), (.cells [(.ptr 1 0)]), (.cells [(.d (.int .u8 x5)), (.d (.int .i64 x6)), (.d (.int .i64 x7))]), (.loop { st := .ready, pending := none, env := [(2, (.ptr 2 0)), (7, (.ptr 3 0))], n := 41, params := #[27, 28], assign := HA74r0, body := HB74r0 })] (.tuple []) [(.map true [.int .u8, .int .i64, .int .i64] v155), (.cells [(.d (.list 4 x2)), (.d (.list 6 x3)), (.func 73 [] []), (.map 0)]), (.cells [(.ptr 1 0)]), (.cells [(.d (.int .i64 v156))]), (.cells [(.ptr 1 0)]), (.cells [(.d (.int .u8 x5)), (.d (.int .i64 x6)), (.d (.int .i64 x7))]), (.loop { st := .ready, pending := none, env := [(2, (.ptr 2 0)), (7, (.ptr 3 0))], n := 41, params := #[27, 28], assign := HA74r0, body := HB74r0 })] := by
  unfold H125d at h
  refine ACall.enter hT (fn := Try.f125) Try.func125 rfl (by decide) (by simp [Try.f125]) rfl rfl rfl rfl (lb rfl) ?_
  refine AWp.seq ?_
  refine AWp.rg hT hA {} (by cbv) (lb rfl) ?_
  refine nT ?_
  refine AWp.block ?_
  obtain ⟨xK154, hxK154, K154, hK154, hkK154⟩ := bindK h
  refine AWp.cutX 0 [] [] 7 (lb rfl) (fun τ => ∃ v152 v153, K154 (v152, v153) = some (v155, v156) ∧ τ = { env := [], heap := [(.map true [.int .u8, .int .i64, .int .i64] v152), (.cells [(.d (.list 4 x2)), (.d (.list 6 x3)), (.func 73 [] []), (.map 0)]), (.cells [(.ptr 1 0)]), (.cells [(.d (.int .i64 v153))]), (.cells [(.ptr 1 0)]), (.cells [(.d (.int .u8 x5)), (.d (.int .i64 x6)), (.d (.int .i64 x7))]), (.loop { st := .ready, pending := none, env := [(2, (.ptr 2 0)), (7, (.ptr 3 0))], n := 41, params := #[27, 28], assign := HA74r0, body := HB74r0 })], n := 82 }) ?_ ?_
  · skip
    refine AWp.iter hxK154 [0, 1, 2, 14, 15, 16] [] 7 (lb rfl) (fun (v74, v75, v76) => { env := [(0, (.yield 6)), (1, (.ptr 4 0)), (2, (.ptr 5 0)), (14, (.d (.list 6 x3))), (15, (.d (.int .i64 (A.len x3)))), (16, (.d (.int .i64 v74)))], heap := [(.map true [.int .u8, .int .i64, .int .i64] v75), (.cells [(.d (.list 4 x2)), (.d (.list 6 x3)), (.func 73 [] []), (.map 0)]), (.cells [(.ptr 1 0)]), (.cells [(.d (.int .i64 v76))]), (.cells [(.ptr 1 0)]), (.cells [(.d (.int .u8 x5)), (.d (.int .i64 x6)), (.d (.int .i64 x7))]), (.loop { st := .ready, pending := none, env := [(2, (.ptr 2 0)), (7, (.ptr 3 0))], n := 41, params := #[27, 28], assign := HA74r0, body := HB74r0 })], n := 82 }) ⟨rfl, (by cbv)⟩ ?_
    rintro ⟨v74, v75, v76⟩ eK154 hsK154
    dsimp only [H125dL1] at hsK154
    refine AWp.seq ?_
    refine AWp.rg hT hA {} (by cbv) (lb rfl) ?_
    refine nT ?_
    refine AWp.seq ?_
    rcases tf (A.zlt v74 (A.len x3)) with c77 | c77
    · replace hsK154 := cT c77 hsK154
      refine AWp.cdT rfl (by first | rfl | simp only [c77, Bool.not_true, Bool.not_false, cond_true, cond_false]) ?_
      refine AWp.skip ?_
      refine nT ?_
      refine AWp.seq ?_
      obtain ⟨⟨v149, v150⟩, hvK151, hsK154⟩ := bindS hsK154
      refine AWp.cutN [0, 1, 2, 14, 15, 16] [] 7 (lb rfl) (fun τ => τ = { env := [(0, (.yield 6)), (1, (.ptr 4 0)), (2, (.ptr 5 0)), (14, (.d (.list 6 x3))), (15, (.d (.int .i64 (A.len x3)))), (16, (.d (.int .i64 v74)))], heap := [(.map true [.int .u8, .int .i64, .int .i64] v149), (.cells [(.d (.list 4 x2)), (.d (.list 6 x3)), (.func 73 [] []), (.map 0)]), (.cells [(.ptr 1 0)]), (.cells [(.d (.int .i64 v150))]), (.cells [(.ptr 1 0)]), (.cells [(.d (.int .u8 x5)), (.d (.int .i64 x6)), (.d (.int .i64 x7))]), (.loop { st := .ready, pending := none, env := [(2, (.ptr 2 0)), (7, (.ptr 3 0))], n := 41, params := #[27, 28], assign := HA74r0, body := HB74r0 })], n := 82 }) ?_ ?_
      · skip
        refine AWp.block ?_
        refine AWp.seq ?_
        obtain ⟨⟨a78, a79, a80, a81, a82, a83⟩, e84, hvK151⟩ := bindS hvK151
        obtain ⟨f85, f86⟩ := gtI e84
        refine AWp.rg hT hA { tk := [20] } (by (repeat (cbv; simp only [c77, f85, f86])); first | done | cbv) (lb rfl) ?_
        refine nT ?_
        refine AWp.seq ?_
        refine AWp.region ?_
        obtain ⟨r88, e87, hvK151⟩ := bindS hvK151
        refine AOps.cc hT hA {} (by (repeat (cbv; simp only [c77])); first | done | cbv) (lb rfl) (H124aw hA e87) rfl (.inr rfl) rfl rfl rfl (lb rfl) rfl rfl ?_
        refine AOps.cd hT hA {} (by (repeat (cbv; simp only [c77])); first | done | cbv) (lb rfl) ?_
        refine nT ?_
        refine AWp.seq ?_
        refine AWp.seq ?_
        refine AWp.rg hT hA {} (by (repeat (cbv; simp only [c77])); first | done | cbv) (lb rfl) ?_
        refine nT ?_
        refine AWp.block ?_
        obtain ⟨xK128, hxK128, K128, hK128, hkK128⟩ := bindK hvK151
        refine AWp.cutX 2 [0, 1, 2, 4, 5, 6, 14, 15, 16] [] 7 (lb rfl) (fun τ => ∃ v127, K128 v127 = some (v149, v150) ∧ τ = { env := [(0, (.yield 6)), (1, (.ptr 4 0)), (2, (.ptr 5 0)), (4, (.d (.int .i64 v74))), (5, (.lbox [(.d (.int .i64 a78)), (.d (.int .i64 a79)), (.d (.int .i64 a80)), (.d (.int .i64 a81)), (.d (.int .i64 a82)), (.d (.int .i64 a83))])), (6, (.d (.bool v127))), (14, (.d (.list 6 x3))), (15, (.d (.int .i64 (A.len x3)))), (16, (.d (.int .i64 v74)))], heap := [(.map true [.int .u8, .int .i64, .int .i64] v75), (.cells [(.d (.list 4 x2)), (.d (.list 6 x3)), (.func 73 [] []), (.map 0)]), (.cells [(.ptr 1 0)]), (.cells [(.d (.int .i64 v76))]), (.cells [(.ptr 1 0)]), (.cells [(.d (.int .u8 x5)), (.d (.int .i64 x6)), (.d (.int .i64 x7))]), (.loop { st := .ready, pending := none, env := [(2, (.ptr 2 0)), (7, (.ptr 3 0))], n := 41, params := #[27, 28], assign := HA74r0, body := HB74r0 })], n := 82 }) ?_ ?_
        · skip
          refine AWp.iter hxK128 [0, 1, 2, 4, 5, 6, 14, 15, 16, 29, 30, 31] [] 7 (lb rfl) (fun (v107, v108) => { env := [(0, (.yield 6)), (1, (.ptr 4 0)), (2, (.ptr 5 0)), (4, (.d (.int .i64 v74))), (5, (.lbox [(.d (.int .i64 a78)), (.d (.int .i64 a79)), (.d (.int .i64 a80)), (.d (.int .i64 a81)), (.d (.int .i64 a82)), (.d (.int .i64 a83))])), (6, (.d (.bool v107))), (14, (.d (.list 6 x3))), (15, (.d (.int .i64 (A.len x3)))), (16, (.d (.int .i64 v74))), (29, (.d (.list 6 x3))), (30, (.d (.int .i64 (A.len x3)))), (31, (.d (.int .i64 v108)))], heap := [(.map true [.int .u8, .int .i64, .int .i64] v75), (.cells [(.d (.list 4 x2)), (.d (.list 6 x3)), (.func 73 [] []), (.map 0)]), (.cells [(.ptr 1 0)]), (.cells [(.d (.int .i64 v76))]), (.cells [(.ptr 1 0)]), (.cells [(.d (.int .u8 x5)), (.d (.int .i64 x6)), (.d (.int .i64 x7))]), (.loop { st := .ready, pending := none, env := [(2, (.ptr 2 0)), (7, (.ptr 3 0))], n := 41, params := #[27, 28], assign := HA74r0, body := HB74r0 })], n := 82 }) ⟨rfl, (by first | cbv | ((repeat (cbv; simp only [c77])); first | done | cbv))⟩ ?_
          rintro ⟨v107, v108⟩ eK128 hsK128
          dsimp only [H125dL0] at hsK128
          refine AWp.seq ?_
          refine AWp.rg hT hA {} (by cbv) (lb rfl) ?_
          refine nT ?_
          refine AWp.seq ?_
          rcases tf (A.zlt v108 (A.len x3)) with c109 | c109
          · replace hsK128 := cT c109 hsK128
            refine AWp.cdT rfl (by first | rfl | simp only [c109, Bool.not_true, Bool.not_false, cond_true, cond_false]) ?_
            refine AWp.skip ?_
            refine nT ?_
            refine AWp.seq ?_
            refine AWp.block ?_
            refine AWp.seq ?_
            obtain ⟨⟨a110, a111, a112, a113, a114, a115⟩, e116, hsK128⟩ := bindS hsK128
            obtain ⟨f117, f118⟩ := gtI e116
            refine AWp.rg hT hA { tk := [35] } (by (repeat (cbv; simp only [c109, f117, f118])); first | done | cbv) (lb rfl) ?_
            refine nT ?_
            obtain ⟨v125, hvK126, hsK128⟩ := bindS hsK128
            refine AWp.cutN [0, 1, 2, 4, 5, 6, 14, 15, 16, 29, 30, 31] [] 7 (lb rfl) (fun τ => τ = { env := [(0, (.yield 6)), (1, (.ptr 4 0)), (2, (.ptr 5 0)), (4, (.d (.int .i64 v74))), (5, (.lbox [(.d (.int .i64 a78)), (.d (.int .i64 a79)), (.d (.int .i64 a80)), (.d (.int .i64 a81)), (.d (.int .i64 a82)), (.d (.int .i64 a83))])), (6, (.d (.bool v125))), (14, (.d (.list 6 x3))), (15, (.d (.int .i64 (A.len x3)))), (16, (.d (.int .i64 v74))), (29, (.d (.list 6 x3))), (30, (.d (.int .i64 (A.len x3)))), (31, (.d (.int .i64 v108)))], heap := [(.map true [.int .u8, .int .i64, .int .i64] v75), (.cells [(.d (.list 4 x2)), (.d (.list 6 x3)), (.func 73 [] []), (.map 0)]), (.cells [(.ptr 1 0)]), (.cells [(.d (.int .i64 v76))]), (.cells [(.ptr 1 0)]), (.cells [(.d (.int .u8 x5)), (.d (.int .i64 x6)), (.d (.int .i64 x7))]), (.loop { st := .ready, pending := none, env := [(2, (.ptr 2 0)), (7, (.ptr 3 0))], n := 41, params := #[27, 28], assign := HA74r0, body := HB74r0 })], n := 82 }) ?_ ?_
            · skip
              refine AWp.regionDraw rfl (lb rfl) ?_
              rcases tf v107 with c119 | c119
              · replace hvK126 := cT c119 hvK126
                obtain ⟨r121, e120, hvK126⟩ := bindS hvK126
                refine DOps.c0 hT hA {} rfl (by (repeat (cbv; simp only [c109, c119])); first | done | cbv) (H124aw hA e120) rfl rfl (lb rfl) rfl rfl ?_
                rcases tf r121 with c122 | c122
                · replace hvK126 := cT c122 hvK126
                  refine DOps.cd hT hA {} rfl (by (repeat (cbv; simp only [c109, c119, c122])); first | done | cbv) (by kernel_rfl) ?_
                  cases soI hvK126
                  exact oNi ⟨rfl, (by first | cbv | ((repeat (cbv; simp only [c109, c119, c122])); first | done | cbv))⟩
                · replace hvK126 := cF c122 hvK126
                  obtain ⟨r124, e123, hvK126⟩ := bindS hvK126
                  refine DOps.c0 hT hA {} rfl (by (repeat (cbv; simp only [c109, c119, c122])); first | done | cbv) (H73aw hA e123) rfl rfl (lb rfl) rfl rfl ?_
                  refine DOps.cd hT hA {} rfl (by (repeat (cbv; simp only [c109, c119, c122])); first | done | cbv) (by kernel_rfl) ?_
                  cases soI hvK126
                  exact oNi ⟨rfl, (by first | cbv | ((repeat (cbv; simp only [c109, c119, c122])); first | done | cbv))⟩
              · replace hvK126 := cF c119 hvK126
                refine DOps.cd hT hA {} rfl (by (repeat (cbv; simp only [c109, c119])); first | done | cbv) (by kernel_rfl) ?_
                cases soI hvK126
                exact oNi ⟨rfl, (by first | cbv | ((repeat (cbv; simp only [c109, c119])); first | done | cbv))⟩
            · rintro _ rfl
              refine nB ?_
              refine nT ?_
              refine AWp.rg hT hA {} (by cbv) (lb rfl) ?_
              exact nT ⟨_, (soI hsK128).symm, rfl, (by cbv)⟩
          · replace hsK128 := cF c109 hsK128
            refine AWp.cdF rfl (by first | rfl | simp only [c109, Bool.not_true, Bool.not_false, cond_true, cond_false]) ?_
            refine AWp.exit ?_
            refine xT ?_
            refine xT ?_
            refine exL hsK128 fun hx => ?_
            subst hx
            exact oxI ⟨rfl, _, hkK128, (by first | cbv | ((repeat (cbv; simp only [c109])); first | done | cbv))⟩
        · rintro _ ⟨v127, hkK128, rfl⟩
          have hvK151 := (hK128 _ hkK128)
          refine xB ?_
          refine nT ?_
          refine AWp.seq ?_
          refine AWp.seq ?_
          refine AWp.rg hT hA {} (by cbv) (lb rfl) ?_
          refine nT ?_
          rcases tf v127 with c129 | c129
          · replace hvK151 := cT c129 hvK151
            refine AWp.cdF rfl (by first | rfl | simp only [c129, Bool.not_true, Bool.not_false, cond_true, cond_false]) ?_
            refine AWp.skip ?_
            refine nT ?_
            refine AWp.seq ?_
            refine AWp.regionDraw rfl (lb rfl) ?_
            obtain ⟨⟨r131, r132, r133⟩, e130, hvK151⟩ := bindS hvK151
            refine DOps.c0 hT hA { tk := [65] } rfl (by (repeat (cbv; simp only [c129])); first | done | cbv) (H78aw hA e130) rfl rfl (lb rfl) rfl rfl ?_
            refine DOps.cd hT hA { tk := [65] } rfl (by (repeat (cbv; simp only [c129])); first | done | cbv) (by kernel_rfl) ?_
            refine nT ?_
            refine AWp.seq ?_
            obtain ⟨⟨v146, v147⟩, hvK148, hvK151⟩ := bindS hvK151
            refine AWp.cutN [0, 1, 2, 14, 15, 16, 80] [] 7 (lb rfl) (fun τ => τ = { env := [(0, (.yield 6)), (1, (.ptr 4 0)), (2, (.ptr 5 0)), (14, (.d (.list 6 x3))), (15, (.d (.int .i64 (A.len x3)))), (16, (.d (.int .i64 v74))), (80, (.d (.bool false)))], heap := [(.map true [.int .u8, .int .i64, .int .i64] v146), (.cells [(.d (.list 4 x2)), (.d (.list 6 x3)), (.func 73 [] []), (.map 0)]), (.cells [(.ptr 1 0)]), (.cells [(.d (.int .i64 v147))]), (.cells [(.ptr 1 0)]), (.cells [(.d (.int .u8 x5)), (.d (.int .i64 x6)), (.d (.int .i64 x7))]), (.loop { st := .ready, pending := none, env := [(2, (.ptr 2 0)), (7, (.ptr 3 0))], n := 41, params := #[27, 28], assign := HA74r0, body := HB74r0 })], n := 82 }) ?_ ?_
            · skip
              refine AWp.regionDraw rfl (lb rfl) ?_
              rcases tf r133 with c134 | c134
              · replace hvK148 := cT c134 hvK148
                obtain ⟨_, e135, hvK148⟩ := bindS hvK148
                have f136 := nkI e135
                obtain ⟨q144, hr145, hvK148⟩ := bindS hvK148
                obtain ⟨v142, v143⟩ := q144
                have y141 : YCall Try.prog 6 [(.d (.int .i64 v74)), (.d (.agg [(.int .u8 (A.bits .or .u8 x5 (A.shl .u8 1 v74))), (.int .i64 r131), (.int .i64 r132)]))] [(.map true [.int .u8, .int .i64, .int .i64] v75), (.cells [(.d (.list 4 x2)), (.d (.list 6 x3)), (.func 73 [] []), (.map 0)]), (.cells [(.ptr 1 0)]), (.cells [(.d (.int .i64 v76))]), (.cells [(.ptr 1 0)]), (.cells [(.d (.int .u8 x5)), (.d (.int .i64 x6)), (.d (.int .i64 x7))]), (.loop { st := .ready, pending := none, env := [(2, (.ptr 2 0)), (7, (.ptr 3 0))], n := 41, params := #[27, 28], assign := HA74r0, body := HB74r0 })] (.d (.bool true)) [(.map true [.int .u8, .int .i64, .int .i64] v142), (.cells [(.d (.list 4 x2)), (.d (.list 6 x3)), (.func 73 [] []), (.map 0)]), (.cells [(.ptr 1 0)]), (.cells [(.d (.int .i64 v143))]), (.cells [(.ptr 1 0)]), (.cells [(.d (.int .u8 x5)), (.d (.int .i64 x6)), (.d (.int .i64 x7))]), (.loop { st := .ready, pending := none, env := [(2, (.ptr 2 0)), (7, (.ptr 3 0))], n := 41, params := #[27, 28], assign := HA74r0, body := HB74r0 })] := by
                  refine YCall.mk rfl rfl rfl rfl rfl rfl (lb rfl) ?_
                  dsimp only [HA74r0, HB74r0, cAt, Try.f74, Option.getD]
                  refine AWp.rg hT hA { tk := [28] } (by cbv) (lb rfl) ?_
                  refine ⟨rfl, rfl, ?_⟩
                  refine AWp.block ?_
                  refine AWp.regionDraw rfl (lb rfl) ?_
                  obtain ⟨⟨r139, r140⟩, e138, hr145⟩ := bindS hr145
                  refine DOps.cl hT hA { tk := [33] } rfl (by cbv) (ih81 e138) rfl rfl rfl rfl rfl (lb rfl) rfl rfl ?_
                  refine DOps.cd hT hA { tk := [33] } rfl (by cbv) (by kernel_rfl) ?_
                  refine nB ?_
                  cases soI hr145
                  exact ⟨rfl, rfl, _, rfl⟩
                refine DOps.cy hT hA {} rfl (by (repeat (cbv; simp only [c129, c134, f136])); first | done | cbv) y141 rfl (.inl rfl) rfl rfl rfl (lb rfl) rfl rfl ?_
                refine DOps.cd hT hA {} rfl (by (repeat (cbv; simp only [c129, c134, f136])); first | done | cbv) (by kernel_rfl) ?_
                cases soI hvK148
                exact oNi ⟨rfl, (by first | cbv | ((repeat (cbv; simp only [c129, c134])); first | done | cbv))⟩
              · replace hvK148 := cF c134 hvK148
                refine DOps.cd hT hA {} rfl (by (repeat (cbv; simp only [c129, c134])); first | done | cbv) (by kernel_rfl) ?_
                cases soI hvK148
                exact oNi ⟨rfl, (by first | cbv | ((repeat (cbv; simp only [c129, c134])); first | done | cbv))⟩
            · rintro _ rfl
              refine nT ?_
              refine AWp.cdF rfl (by first | rfl | simp only [Bool.not_true, Bool.not_false, cond_true, cond_false]) ?_
              refine AWp.skip ?_
              refine nB ?_
              cases soI hvK151
              exact oNi ⟨rfl, (by cbv)⟩
          · replace hvK151 := cF c129 hvK151
            refine AWp.cdT rfl (by first | rfl | simp only [c129, Bool.not_true, Bool.not_false, cond_true, cond_false]) ?_
            refine AWp.exit ?_
            refine xT ?_
            refine xB ?_
            cases soI hvK151
            exact oNi ⟨rfl, (by first | cbv | ((repeat (cbv; simp only [c129])); first | done | cbv))⟩
      · rintro _ rfl
        refine nT ?_
        refine AWp.rg hT hA {} (by cbv) (lb rfl) ?_
        exact nT ⟨_, (soI hsK154).symm, rfl, (by cbv)⟩
    · replace hsK154 := cF c77 hsK154
      refine AWp.cdF rfl (by first | rfl | simp only [c77, Bool.not_true, Bool.not_false, cond_true, cond_false]) ?_
      refine AWp.exit ?_
      refine xT ?_
      refine xT ?_
      refine exL hsK154 fun hx => ?_
      subst hx
      exact oxI ⟨rfl, _, _, hkK154, (by first | cbv | ((repeat (cbv; simp only [c77])); first | done | cbv))⟩
  · rintro _ ⟨v152, v153, hkK154, rfl⟩
    have h := (hK154 _ hkK154)
    refine xB ?_
    cases soI h
    exact ⟨rfl, rfl, rfl, lb rfl, _, rfl⟩

theorem H74aBw {A : Ar} (hA : A = Ar.std) {self81 : Int → Int → Int → (List (D × D)) → List D → List D → (Option (Int × List (D × D)))} (ih81 : ∀ {x1 : Int} {x2 : Int} {x3 : Int} {x4 : List (D × D)} {x5 : List D} {x6 : List D} {y1 : Int} {y2 : List (D × D)}, self81 x1 x2 x3 x4 x5 x6 = some (y1, y2) → ACall Try.prog 74 [(.ptr 1 0), (.d (.agg [(.int .u8 x1), (.int .i64 x2), (.int .i64 x3)]))] [(.map true [.int .u8, .int .i64, .int .i64] x4), (.cells [(.d (.list 4 x5)), (.d (.list 6 x6)), (.func 73 [] []), (.map 0)])] (.d (.int .i64 y1)) [(.map true [.int .u8, .int .i64, .int .i64] y2), (.cells [(.d (.list 4 x5)), (.d (.list 6 x6)), (.func 73 [] []), (.map 0)])]) {x1 : Int} {x2 : Int} {x3 : Int} {x4 : List (D × D)} {x5 : List D} {x6 : List D} {v27 : Int} {v28 : List (D × D)} (h : H74aB A self81 x1 x2 x3 x4 x5 x6 = some (v27, v28)) : ACall Try.prog 74 [(.ptr 1 0), (.d (.agg [(.int .u8 x1), (.int .i64 x2), (.int .i64 x3)]))] [(.map true [.int .u8, .int .i64, .int .i64] x4), (.cells [(.d (.list 4 x5)), (.d (.list 6 x6)), (.func 73 [] []), (.map 0)])] (.d (.int .i64 v27)) [(.map true [.int .u8, .int .i64, .int .i64] v28), (.cells [(.d (.list 4 x5)), (.d (.list 6 x6)), (.func 73 [] []), (.map 0)])] := by
  unfold H74aB at h
  refine ACall.enterT hT (fn := Try.f74) Try.func74 rfl (by decide) (by simp [Try.f74]) rfl rfl rfl rfl (lb rfl) ?_
  refine AWpT.seq ?_
  refine AWpT.of ?_
  refine AWp.rg hT hA { esc := [2] } (by cbv) (lb rfl) ?_
  refine nT ?_
  refine AWpT.seq ?_
  refine AWpT.of ?_
  refine AWp.seq ?_
  obtain ⟨⟨v11, v12⟩, hvK13, h⟩ := bindS h
  refine AWp.cutN [2, 3, 5, 6] [] 3 (lb rfl) (fun τ => τ = { env := [(2, (.ptr 2 0)), (3, (.lbox [(.d (.int .u8 x1)), (.d (.int .i64 x2)), (.d (.int .i64 x3))])), (5, (.d (.int .i64 v11))), (6, (.d (.bool v12)))], heap := [(.map true [.int .u8, .int .i64, .int .i64] x4), (.cells [(.d (.list 4 x5)), (.d (.list 6 x6)), (.func 73 [] []), (.map 0)]), (.cells [(.ptr 1 0)])], n := 41 }) ?_ ?_
  · skip
    obtain ⟨o10, e8, hvK13⟩ := bindS hvK13
    rcases o10 with _ | a7
    · have f9 := lkN e8
      refine AWp.rd hT hA { tk := [17] } rfl (by (repeat (cbv; simp only [f9])); first | done | cbv) (by kernel_rfl) (lb rfl) ?_
      cases soI hvK13
      exact oNi ⟨rfl, (by cbv)⟩
    · have f9 := lkS e8
      refine AWp.rd hT hA { tk := [17] } rfl (by (repeat (cbv; simp only [f9])); first | done | cbv) (by kernel_rfl) (lb rfl) ?_
      cases soI hvK13
      exact oNi ⟨rfl, (by cbv)⟩
  · rintro _ rfl
    refine nT ?_
    refine AWp.seq ?_
    refine AWp.rg hT hA {} (by cbv) (lb rfl) ?_
    refine nT ?_
    rcases tf v12 with c14 | c14
    · replace h := cT c14 h
      refine AWp.cdT rfl (by first | rfl | simp only [c14, Bool.not_true, Bool.not_false, cond_true, cond_false]) ?_
      refine AWp.seq ?_
      refine AWp.rg hT hA { tk := [5, 20] } (by (repeat (cbv; simp only [c14])); first | done | cbv) (lb rfl) ?_
      refine nT ?_
      refine AWp.ret ?_
      refine rT ?_
      cases soI h
      exact ⟨rfl, rfl, rfl, lb rfl, _, rfl⟩
    · replace h := cF c14 h
      refine AWp.cdF rfl (by first | rfl | simp only [c14, Bool.not_true, Bool.not_false, cond_true, cond_false]) ?_
      refine AWp.skip ?_
      refine nT ?_
      refine AWpT.seq ?_
      refine AWpT.of ?_
      refine AWp.rg hT hA { esc := [7] } (by (repeat (cbv; simp only [c14])); first | done | cbv) (lb rfl) ?_
      refine nT ?_
      refine AWpT.seq ?_
      refine AWpT.of ?_
      refine AWp.seq ?_
      refine AWp.region ?_
      obtain ⟨r16, e15, h⟩ := bindS h
      refine AOps.cc hT hA {} (by (repeat (cbv; simp only [c14])); first | done | cbv) (lb rfl) (H115cw hA e15) rfl (.inr rfl) rfl rfl rfl (lb rfl) rfl rfl ?_
      refine AOps.cd hT hA {} (by (repeat (cbv; simp only [c14])); first | done | cbv) (lb rfl) ?_
      refine nT ?_
      obtain ⟨v18, hvK19, h⟩ := bindS h
      refine AWp.cutN [2, 3, 7] [] 4 (lb rfl) (fun τ => τ = { env := [(2, (.ptr 2 0)), (3, (.lbox [(.d (.int .u8 x1)), (.d (.int .i64 x2)), (.d (.int .i64 x3))])), (7, (.ptr 3 0))], heap := [(.map true [.int .u8, .int .i64, .int .i64] x4), (.cells [(.d (.list 4 x5)), (.d (.list 6 x6)), (.func 73 [] []), (.map 0)]), (.cells [(.ptr 1 0)]), (.cells [(.d (.int .i64 v18))])], n := 41 }) ?_ ?_
      · skip
        rcases tf r16 with c17 | c17
        · replace hvK19 := cT c17 hvK19
          refine AWp.cdT rfl (by first | rfl | simp only [c14, c17, Bool.not_true, Bool.not_false, cond_true, cond_false]) ?_
          refine AWp.rg hT hA {} (by (repeat (cbv; simp only [c14, c17])); first | done | cbv) (lb rfl) ?_
          cases soI hvK19
          exact oNi ⟨rfl, (by first | cbv | ((repeat (cbv; simp only [c14, c17])); first | done | cbv))⟩
        · replace hvK19 := cF c17 hvK19
          refine AWp.cdF rfl (by first | rfl | simp only [c14, c17, Bool.not_true, Bool.not_false, cond_true, cond_false]) ?_
          refine AWp.skip ?_
          cases soI hvK19
          exact oNi ⟨rfl, (by first | cbv | ((repeat (cbv; simp only [c14, c17])); first | done | cbv))⟩
      · rintro _ rfl
        refine nT ?_
        refine AWpT.seq ?_
        refine AWpT.seq ?_
        refine AWpT.of ?_
        refine AWp.region ?_
        obtain ⟨⟨r21, r22, r23⟩, e20, h⟩ := bindS h
        refine AOps.cc hT hA {} (by cbv) (lb rfl) (H116hw hA e20) rfl (.inl rfl) rfl rfl rfl (lb rfl) rfl rfl ?_
        refine AOps.cd hT hA {} (by cbv) (lb rfl) ?_
        refine nT ?_
        refine AWpT.block ?_
        obtain ⟨⟨r25, r26⟩, e24, h⟩ := bindS h
        refine AWpT.rangeFunc [2, 7] (H' := [(.map true [.int .u8, .int .i64, .int .i64] r25), (.cells [(.d (.list 4 x5)), (.d (.list 6 x6)), (.func 73 [] []), (.map 0)]), (.cells [(.ptr 1 0)]), (.cells [(.d (.int .i64 r26))]), (.cells [(.ptr 1 0)]), (.cells [(.d (.int .u8 r21)), (.d (.int .i64 r22)), (.d (.int .i64 r23))]), (.loop { st := .ready, pending := none, env := [(2, (.ptr 2 0)), (7, (.ptr 3 0))], n := 41, params := #[27, 28], assign := HA74r0, body := HB74r0 })]) rfl (lb rfl) rfl rfl rfl (H125dw hA ih81 e24) (st := .ready) (by decide) rfl ?_
        refine bN ?_
        refine nB ?_
        refine nT ?_
        refine AWpT.of ?_
        refine AWp.seq ?_
        refine AWp.rd hT hA {} rfl (by cbv) (by kernel_rfl) (lb rfl) ?_
        refine nT ?_
        refine AWp.seq ?_
        refine AWp.rg hT hA { tk := [40] } (by cbv) (lb rfl) ?_
        refine nT ?_
        refine AWp.ret ?_
        cases soI h
        exact ⟨rfl, rfl, rfl, lb rfl, _, rfl⟩

theorem H74aRw {A : Ar} (hA : A = Ar.std) : ∀ (n : Nat) {x1 : Int} {x2 : Int} {x3 : Int} {x4 : List (D × D)} {x5 : List D} {x6 : List D} {v27 : Int} {v28 : List (D × D)}, H74aR A n x1 x2 x3 x4 x5 x6 = some (v27, v28) → ACall Try.prog 74 [(.ptr 1 0), (.d (.agg [(.int .u8 x1), (.int .i64 x2), (.int .i64 x3)]))] [(.map true [.int .u8, .int .i64, .int .i64] x4), (.cells [(.d (.list 4 x5)), (.d (.list 6 x6)), (.func 73 [] []), (.map 0)])] (.d (.int .i64 v27)) [(.map true [.int .u8, .int .i64, .int .i64] v28), (.cells [(.d (.list 4 x5)), (.d (.list 6 x6)), (.func 73 [] []), (.map 0)])]
  | 0, _, _, _, _, _, _, _, _, h => by cases h
  | n + 1, _, _, _, _, _, _, _, _, h => H74aBw hA (fun h => H74aRw hA n h) h

theorem H74aw {A : Ar} (hA : A = Ar.std) {x1 : Int} {x2 : Int} {x3 : Int} {x4 : List (D × D)} {x5 : List D} {x6 : List D} {v27 : Int} {v28 : List (D × D)} (h : H74a A x1 x2 x3 x4 x5 x6 = some (v27, v28)) : ACall Try.prog 74 [(.ptr 1 0), (.d (.agg [(.int .u8 x1), (.int .i64 x2), (.int .i64 x3)]))] [(.map true [.int .u8, .int .i64, .int .i64] x4), (.cells [(.d (.list 4 x5)), (.d (.list 6 x6)), (.func 73 [] []), (.map 0)])] (.d (.int .i64 v27)) [(.map true [.int .u8, .int .i64, .int .i64] v28), (.cells [(.d (.list 4 x5)), (.d (.list 6 x6)), (.func 73 [] []), (.map 0)])] := H74aRw hA fuel h

theorem H28w {A : Ar} (hA : A = Ar.std) {x1 : List D} {x2 : List D} {v12 : Bool} {v13 : Int} (h : H28 A x1 x2 = some (v12, v13)) : ACall Try.prog 28 [(.d (.list 4 x1)), (.d (.list 6 x2))] [] (.tuple [(.d (.bool v12)), (.d (.int .i64 v13))]) [] := by
  unfold H28 at h
  refine ACall.enter hT (fn := Try.f28) Try.func28 rfl (by decide) (by simp [Try.f28]) rfl rfl rfl rfl (lb rfl) ?_
  refine AWp.seq ?_
  refine AWp.rg hT hA {} (by cbv) (lb rfl) ?_
  refine nT ?_
  refine AWp.seq ?_
  refine AWp.seq ?_
  refine AWp.region ?_
  obtain ⟨r4, e3, h⟩ := bindS h
  refine AOps.cc hT hA {} (by cbv) (lb rfl) (H71w hA e3) rfl (.inl rfl) rfl rfl rfl (lb rfl) rfl rfl ?_
  refine AOps.cd hT hA {} (by cbv) (lb rfl) ?_
  refine nT ?_
  refine AWp.seq ?_
  refine AWp.rg hT hA {} (by cbv) (lb rfl) ?_
  refine nT ?_
  rcases tf (A.zeq r4 0) with c5 | c5
  · replace h := cT c5 h
    refine AWp.cdF rfl (by first | rfl | simp only [c5, Bool.not_true, Bool.not_false, cond_true, cond_false]) ?_
    refine AWp.skip ?_
    refine nT ?_
    refine AWp.seq ?_
    refine AWp.region ?_
    obtain ⟨⟨r7, r8⟩, e6, h⟩ := bindS h
    refine AOps.cc hT hA {} (by (repeat (cbv; simp only [c5])); first | done | cbv) (lb rfl) (H72aw hA e6) rfl (.inl rfl) rfl rfl rfl (lb rfl) rfl rfl ?_
    obtain ⟨⟨r10, r11⟩, e9, h⟩ := bindS h
    refine AOps.cc hT hA {} (by (repeat (cbv; simp only [c5])); first | done | cbv) (lb rfl) (H74aw hA e9) rfl (.inl rfl) rfl rfl rfl (lb rfl) rfl rfl ?_
    refine AOps.cd hT hA {} (by (repeat (cbv; simp only [c5])); first | done | cbv) (lb rfl) ?_
    refine nT ?_
    refine AWp.ret ?_
    cases soI h
    exact ⟨rfl, rfl, rfl, lb rfl, _, rfl⟩
  · replace h := cF c5 h
    refine AWp.cdT rfl (by first | rfl | simp only [c5, Bool.not_true, Bool.not_false, cond_true, cond_false]) ?_
    refine AWp.seq ?_
    refine AWp.rg hT hA {} (by (repeat (cbv; simp only [c5])); first | done | cbv) (lb rfl) ?_
    refine nT ?_
    refine AWp.ret ?_
    refine rT ?_
    cases soI h
    exact ⟨rfl, rfl, rfl, lb rfl, _, rfl⟩

theorem H29w {A : Ar} (hA : A = Ar.std) {x1 : List D} {x2 : List D} {v10 : Bool} {v11 : Int} (h : H29 A x1 x2 = some (v10, v11)) : ACall Try.prog 29 [(.d (.list 4 x1)), (.d (.list 6 x2))] [] (.tuple [(.d (.bool v10)), (.d (.int .i64 v11))]) [] := by
  unfold H29 at h
  refine ACall.enter hT (fn := Try.f29) Try.func29 rfl (by decide) (by simp [Try.f29]) rfl rfl rfl rfl (lb rfl) ?_
  refine AWp.seq ?_
  refine AWp.rg hT hA {} (by cbv) (lb rfl) ?_
  refine nT ?_
  refine AWp.seq ?_
  refine AWp.region ?_
  obtain ⟨r4, e3, h⟩ := bindS h
  refine AOps.cc hT hA {} (by cbv) (lb rfl) (H75w hA e3) rfl (.inl rfl) rfl rfl rfl (lb rfl) rfl rfl ?_
  refine AOps.cd hT hA {} (by cbv) (lb rfl) ?_
  refine nT ?_
  refine AWp.seq ?_
  refine AWp.seq ?_
  refine AWp.rg hT hA {} (by cbv) (lb rfl) ?_
  refine nT ?_
  rcases tf (A.zeq r4 0) with c5 | c5
  · replace h := cT c5 h
    refine AWp.cdF rfl (by first | rfl | simp only [c5, Bool.not_true, Bool.not_false, cond_true, cond_false]) ?_
    refine AWp.skip ?_
    refine nT ?_
    refine AWp.seq ?_
    refine AWp.rg hT hA { esc := [17] } (by (repeat (cbv; simp only [c5])); first | done | cbv) (lb rfl) ?_
    refine nT ?_
    refine AWp.seq ?_
    refine AWp.region ?_
    obtain ⟨⟨r7, r8, r9⟩, e6, h⟩ := bindS h
    refine AOps.cc hT hA {} (by (repeat (cbv; simp only [c5])); first | done | cbv) (lb rfl) (H76w hA e6) rfl (.inl rfl) rfl rfl rfl (lb rfl) rfl rfl ?_
    refine AOps.cd hT hA {} (by (repeat (cbv; simp only [c5])); first | done | cbv) (lb rfl) ?_
    refine nT ?_
    refine AWp.seq ?_
    refine AWp.rg hT hA {} (by (repeat (cbv; simp only [c5])); first | done | cbv) (lb rfl) ?_
    refine nT ?_
    refine AWp.ret ?_
    cases soI h
    exact ⟨rfl, rfl, rfl, lb rfl, _, rfl⟩
  · replace h := cF c5 h
    refine AWp.cdT rfl (by first | rfl | simp only [c5, Bool.not_true, Bool.not_false, cond_true, cond_false]) ?_
    refine AWp.seq ?_
    refine AWp.rg hT hA {} (by (repeat (cbv; simp only [c5])); first | done | cbv) (lb rfl) ?_
    refine nT ?_
    refine AWp.ret ?_
    refine rT ?_
    cases soI h
    exact ⟨rfl, rfl, rfl, lb rfl, _, rfl⟩

theorem H31w {A : Ar} (hA : A = Ar.std) {x1 : List D} {x2 : List D} {v10 : Int} {v11 : Int} (h : H31 A x1 x2 = some (v10, v11)) : ACall Try.prog 31 [(.d (.list 4 x1)), (.d (.list 6 x2))] [] (.tuple [(.d (.int .i64 v10)), (.d (.int .i64 v11))]) [] := by
  unfold H31 at h
  refine ACall.enter hT (fn := Try.f31) Try.func31 rfl (by decide) (by simp [Try.f31]) rfl rfl rfl rfl (lb rfl) ?_
  refine AWp.seq ?_
  refine AWp.rg hT hA {} (by cbv) (lb rfl) ?_
  refine nT ?_
  refine AWp.seq ?_
  refine AWp.region ?_
  obtain ⟨r4, e3, h⟩ := bindS h
  refine AOps.cc hT hA {} (by cbv) (lb rfl) (H75w hA e3) rfl (.inl rfl) rfl rfl rfl (lb rfl) rfl rfl ?_
  refine AOps.cd hT hA {} (by cbv) (lb rfl) ?_
  refine nT ?_
  refine AWp.seq ?_
  refine AWp.seq ?_
  refine AWp.rg hT hA {} (by cbv) (lb rfl) ?_
  refine nT ?_
  rcases tf (A.zeq r4 0) with c5 | c5
  · replace h := cT c5 h
    refine AWp.cdF rfl (by first | rfl | simp only [c5, Bool.not_true, Bool.not_false, cond_true, cond_false]) ?_
    refine AWp.skip ?_
    refine nT ?_
    refine AWp.seq ?_
    refine AWp.rg hT hA { esc := [17] } (by (repeat (cbv; simp only [c5])); first | done | cbv) (lb rfl) ?_
    refine nT ?_
    refine AWp.seq ?_
    refine AWp.region ?_
    obtain ⟨⟨r7, r8, r9⟩, e6, h⟩ := bindS h
    refine AOps.cc hT hA {} (by (repeat (cbv; simp only [c5])); first | done | cbv) (lb rfl) (H76w hA e6) rfl (.inl rfl) rfl rfl rfl (lb rfl) rfl rfl ?_
    refine AOps.cd hT hA {} (by (repeat (cbv; simp only [c5])); first | done | cbv) (lb rfl) ?_
    refine nT ?_
    refine AWp.seq ?_
    refine AWp.rg hT hA {} (by (repeat (cbv; simp only [c5])); first | done | cbv) (lb rfl) ?_
    refine nT ?_
    refine AWp.ret ?_
    cases soI h
    exact ⟨rfl, rfl, rfl, lb rfl, _, rfl⟩
  · replace h := cF c5 h
    refine AWp.cdT rfl (by first | rfl | simp only [c5, Bool.not_true, Bool.not_false, cond_true, cond_false]) ?_
    refine AWp.seq ?_
    refine AWp.rg hT hA {} (by (repeat (cbv; simp only [c5])); first | done | cbv) (lb rfl) ?_
    refine nT ?_
    refine AWp.ret ?_
    refine rT ?_
    cases soI h
    exact ⟨rfl, rfl, rfl, lb rfl, _, rfl⟩

theorem H4w {A : Ar} (hA : A = Ar.std) {x1 : List D} {x2 : List D} {v43 : Bool} (h : H4 A x1 x2 = some v43) : ACall Try.prog 4 [(.d (.list 4 x1)), (.d (.list 6 x2))] [] (.d (.bool v43)) [] := by
  unfold H4 at h
  refine ACall.enter hT (fn := Try.f4) Try.func4 rfl (by decide) (by simp [Try.f4]) rfl rfl rfl rfl (lb rfl) ?_
  refine AWp.seq ?_
  refine AWp.rg hT hA {} (by cbv) (lb rfl) ?_
  refine nT ?_
  refine AWp.seq ?_
  refine AWp.seq ?_
  obtain ⟨v8, hvK9, h⟩ := bindS h
  refine AWp.cutN [0, 1, 18] [] 0 (lb rfl) (fun τ => τ = { env := [(0, (.d (.list 4 x1))), (1, (.d (.list 6 x2))), (18, (.d (.bool v8)))], heap := [], n := 85 }) ?_ ?_
  · skip
    refine AWp.region ?_
    obtain ⟨r4, e3, hvK9⟩ := bindS hvK9
    refine AOps.cc hT hA {} (by cbv) (lb rfl) (H17w hA e3) rfl (.inl rfl) rfl rfl rfl (lb rfl) rfl rfl ?_
    rcases tf r4 with c5 | c5
    · replace hvK9 := cT c5 hvK9
      refine AOps.cd hT hA {} (by (repeat (cbv; simp only [c5])); first | done | cbv) (lb rfl) ?_
      cases soI hvK9
      exact oNi ⟨rfl, (by first | cbv | ((repeat (cbv; simp only [c5])); first | done | cbv))⟩
    · replace hvK9 := cF c5 hvK9
      obtain ⟨r7, e6, hvK9⟩ := bindS hvK9
      refine AOps.cc hT hA {} (by (repeat (cbv; simp only [c5])); first | done | cbv) (lb rfl) (H18w hA e6) rfl (.inl rfl) rfl rfl rfl (lb rfl) rfl rfl ?_
      refine AOps.cd hT hA {} (by (repeat (cbv; simp only [c5])); first | done | cbv) (lb rfl) ?_
      cases soI hvK9
      exact oNi ⟨rfl, (by first | cbv | ((repeat (cbv; simp only [c5])); first | done | cbv))⟩
  · rintro _ rfl
    refine nT ?_
    rcases tf v8 with c10 | c10
    · replace h := cT c10 h
      refine AWp.cdT rfl (by first | rfl | simp only [c10, Bool.not_true, Bool.not_false, cond_true, cond_false]) ?_
      refine AWp.seq ?_
      refine AWp.region ?_
      obtain ⟨r12, e11, h⟩ := bindS h
      refine AOps.cc hT hA { tk := [19] } (by (repeat (cbv; simp only [c10])); first | done | cbv) (lb rfl) (H19w hA e11) rfl (.inl rfl) rfl rfl rfl (lb rfl) rfl rfl ?_
      refine AOps.cd hT hA { tk := [19] } (by (repeat (cbv; simp only [c10])); first | done | cbv) (lb rfl) ?_
      refine nT ?_
      refine AWp.ret ?_
      refine rT ?_
      cases soI h
      exact ⟨rfl, rfl, rfl, lb rfl, _, rfl⟩
    · replace h := cF c10 h
      refine AWp.cdF rfl (by first | rfl | simp only [c10, Bool.not_true, Bool.not_false, cond_true, cond_false]) ?_
      refine AWp.skip ?_
      refine nT ?_
      refine AWp.seq ?_
      refine AWp.region ?_
      obtain ⟨⟨r14, r15⟩, e13, h⟩ := bindS h
      refine AOps.cc hT hA {} (by (repeat (cbv; simp only [c10])); first | done | cbv) (lb rfl) (H26w hA e13) rfl (.inl rfl) rfl rfl rfl (lb rfl) rfl rfl ?_
      refine AOps.cd hT hA {} (by (repeat (cbv; simp only [c10])); first | done | cbv) (lb rfl) ?_
      refine nT ?_
      refine AWp.seq ?_
      refine AWp.region ?_
      obtain ⟨⟨r17, r18⟩, e16, h⟩ := bindS h
      refine AOps.cc hT hA {} (by (repeat (cbv; simp only [c10])); first | done | cbv) (lb rfl) (H27w hA e16) rfl (.inl rfl) rfl rfl rfl (lb rfl) rfl rfl ?_
      refine AOps.cd hT hA {} (by (repeat (cbv; simp only [c10])); first | done | cbv) (lb rfl) ?_
      refine nT ?_
      refine AWp.seq ?_
      refine AWp.seq ?_
      obtain ⟨v20, hvK21, h⟩ := bindS h
      refine AWp.cutN [0, 1, 39] [] 0 (lb rfl) (fun τ => τ = { env := [(0, (.d (.list 4 x1))), (1, (.d (.list 6 x2))), (39, (.d (.bool v20)))], heap := [], n := 85 }) ?_ ?_
      · skip
        rcases tf (A.beq r14 r17) with c19 | c19
        · replace hvK21 := cT c19 hvK21
          refine AWp.rg hT hA {} (by (repeat (cbv; simp only [c10, c19])); first | done | cbv) (lb rfl) ?_
          cases soI hvK21
          exact oNi ⟨rfl, (by first | cbv | ((repeat (cbv; simp only [c10, c19])); first | done | cbv))⟩
        · replace hvK21 := cF c19 hvK21
          refine AWp.rg hT hA {} (by (repeat (cbv; simp only [c10, c19])); first | done | cbv) (lb rfl) ?_
          cases soI hvK21
          exact oNi ⟨rfl, (by first | cbv | ((repeat (cbv; simp only [c10, c19])); first | done | cbv))⟩
      · rintro _ rfl
        refine nT ?_
        rcases tf v20 with c22 | c22
        · replace h := cT c22 h
          refine AWp.cdT rfl (by first | rfl | simp only [c22, Bool.not_true, Bool.not_false, cond_true, cond_false]) ?_
          refine AWp.seq ?_
          refine AWp.rg hT hA {} (by (repeat (cbv; simp only [c22])); first | done | cbv) (lb rfl) ?_
          refine nT ?_
          refine AWp.ret ?_
          refine rT ?_
          cases soI h
          exact ⟨rfl, rfl, rfl, lb rfl, _, rfl⟩
        · replace h := cF c22 h
          refine AWp.cdF rfl (by first | rfl | simp only [c22, Bool.not_true, Bool.not_false, cond_true, cond_false]) ?_
          refine AWp.skip ?_
          refine nT ?_
          refine AWp.seq ?_
          refine AWp.region ?_
          obtain ⟨⟨r24, r25⟩, e23, h⟩ := bindS h
          refine AOps.cc hT hA {} (by (repeat (cbv; simp only [c22])); first | done | cbv) (lb rfl) (H28w hA e23) rfl (.inl rfl) rfl rfl rfl (lb rfl) rfl rfl ?_
          refine AOps.cd hT hA {} (by (repeat (cbv; simp only [c22])); first | done | cbv) (lb rfl) ?_
          refine nT ?_
          refine AWp.seq ?_
          refine AWp.region ?_
          obtain ⟨⟨r27, r28⟩, e26, h⟩ := bindS h
          refine AOps.cc hT hA {} (by (repeat (cbv; simp only [c22])); first | done | cbv) (lb rfl) (H29w hA e26) rfl (.inl rfl) rfl rfl rfl (lb rfl) rfl rfl ?_
          refine AOps.cd hT hA {} (by (repeat (cbv; simp only [c22])); first | done | cbv) (lb rfl) ?_
          refine nT ?_
          refine AWp.seq ?_
          refine AWp.region ?_
          obtain ⟨⟨r30, r31⟩, e29, h⟩ := bindS h
          refine AOps.cc hT hA {} (by (repeat (cbv; simp only [c22])); first | done | cbv) (lb rfl) (H30w hA e29) rfl (.inl rfl) rfl rfl rfl (lb rfl) rfl rfl ?_
          refine AOps.cd hT hA {} (by (repeat (cbv; simp only [c22])); first | done | cbv) (lb rfl) ?_
          refine nT ?_
          refine AWp.seq ?_
          refine AWp.region ?_
          obtain ⟨⟨r33, r34⟩, e32, h⟩ := bindS h
          refine AOps.cc hT hA {} (by (repeat (cbv; simp only [c22])); first | done | cbv) (lb rfl) (H31w hA e32) rfl (.inl rfl) rfl rfl rfl (lb rfl) rfl rfl ?_
          refine AOps.cd hT hA {} (by (repeat (cbv; simp only [c22])); first | done | cbv) (lb rfl) ?_
          refine nT ?_
          refine AWp.seq ?_
          obtain ⟨v41, hvK42, h⟩ := bindS h
          refine AWp.cutN [4] [] 0 (lb rfl) (fun τ => τ = { env := [(4, (.d (.bool v41)))], heap := [], n := 85 }) ?_ ?_
          · skip
            refine AWp.region ?_
            rcases tf (A.beq r24 r27) with c35 | c35
            · replace hvK42 := cT c35 hvK42
              rcases tf (A.zeq r25 r28) with c36 | c36
              · replace hvK42 := cT c36 hvK42
                rcases tf (A.zeq r30 r33) with c37 | c37
                · replace hvK42 := cT c37 hvK42
                  rcases tf (A.zeq r31 r34) with c38 | c38
                  · replace hvK42 := cT c38 hvK42
                    obtain ⟨r40, e39, hvK42⟩ := bindS hvK42
                    refine AOps.cc hT hA { tk := [84] } (by (repeat (cbv; simp only [c22, c35, c36, c37, c38])); first | done | cbv) (lb rfl) (H19w hA e39) rfl (.inl rfl) rfl rfl rfl (lb rfl) rfl rfl ?_
                    refine AOps.cd hT hA { tk := [84] } (by (repeat (cbv; simp only [c22, c35, c36, c37, c38])); first | done | cbv) (lb rfl) ?_
                    cases soI hvK42
                    exact oNi ⟨rfl, (by first | cbv | ((repeat (cbv; simp only [c22, c35, c36, c37, c38])); first | done | cbv))⟩
                  · replace hvK42 := cF c38 hvK42
                    refine AOps.cd hT hA { tk := [84] } (by (repeat (cbv; simp only [c22, c35, c36, c37, c38])); first | done | cbv) (lb rfl) ?_
                    cases soI hvK42
                    exact oNi ⟨rfl, (by first | cbv | ((repeat (cbv; simp only [c22, c35, c36, c37, c38])); first | done | cbv))⟩
                · replace hvK42 := cF c37 hvK42
                  refine AOps.cd hT hA { tk := [84] } (by (repeat (cbv; simp only [c22, c35, c36, c37])); first | done | cbv) (lb rfl) ?_
                  cases soI hvK42
                  exact oNi ⟨rfl, (by first | cbv | ((repeat (cbv; simp only [c22, c35, c36, c37])); first | done | cbv))⟩
              · replace hvK42 := cF c36 hvK42
                refine AOps.cd hT hA { tk := [84] } (by (repeat (cbv; simp only [c22, c35, c36])); first | done | cbv) (lb rfl) ?_
                cases soI hvK42
                exact oNi ⟨rfl, (by first | cbv | ((repeat (cbv; simp only [c22, c35, c36])); first | done | cbv))⟩
            · replace hvK42 := cF c35 hvK42
              refine AOps.cd hT hA { tk := [84] } (by (repeat (cbv; simp only [c22, c35])); first | done | cbv) (lb rfl) ?_
              cases soI hvK42
              exact oNi ⟨rfl, (by first | cbv | ((repeat (cbv; simp only [c22, c35])); first | done | cbv))⟩
          · rintro _ rfl
            refine nT ?_
            refine AWp.ret ?_
            cases soI h
            exact ⟨rfl, rfl, rfl, lb rfl, _, rfl⟩
end Go.Am
