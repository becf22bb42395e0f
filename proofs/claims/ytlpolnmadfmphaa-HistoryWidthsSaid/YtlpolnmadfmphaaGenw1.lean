/- Own text: Genw1. -/
import Derived.Test.YtlpolnmadfmphaaGenw0
set_option maxRecDepth 100000
set_option maxHeartbeats 2000000
set_option linter.unusedVariables false
set_option linter.unusedSimpArgs false
namespace Go.Am
open Go Go.Proofs
theorem H117aw {A : Ar} (hA : A = Ar.std) {x1 : List D} {x2 : Int} {v17 : Bool} (h : H117a A x1 x2 = some v17) : ACall Try.prog 117 [(.d (.list 1 x1)), (.d (.int .i64 x2))] [] (.d (.bool v17)) [] := by
  unfold H117a at h
  refine ACall.enter hT (fn := Try.f117) Try.func117 rfl (by decide) (by simp [Try.f117]) rfl rfl rfl rfl (lb rfl) ?_
  refine AWp.seq ?_
  refine AWp.rg hT hA {} (by cbv) (lb rfl) ?_
  refine nT ?_
  refine AWp.seq ?_
  refine AWp.seq ?_
  refine AWp.rg hT hA {} (by cbv) (lb rfl) ?_
  refine nT ?_
  refine AWp.block ?_
  obtain ⟨xK16, hxK16, K16, hK16, hkK16⟩ := bindK h
  refine AWp.cutX 0 [] [] 0 (lb rfl) (fun τ => K16 (.inl ()) = some v17 ∧ τ = { env := [], heap := [], n := 18 }) ?_ ?_
  · skip
    refine AWp.iter hxK16 [0, 1, 5] [] 0 (lb rfl) (fun v9 => { env := [(0, (.d (.list 1 x1))), (1, (.d (.int .i64 x2))), (5, (.d (.int .i64 v9)))], heap := [], n := 18 }) ⟨rfl, (by cbv)⟩ ?_
    rintro v9 eK16 hsK16
    dsimp only [H117aL0] at hsK16
    refine AWp.seq ?_
    refine AWp.seq ?_
    refine AWp.rg hT hA {} (by cbv) (lb rfl) ?_
    refine nT ?_
    rcases tf (A.zlt v9 (A.len x1)) with c10 | c10
    · replace hsK16 := cT c10 hsK16
      refine AWp.cdT rfl (by first | rfl | simp only [c10, Bool.not_true, Bool.not_false, cond_true, cond_false]) ?_
      refine AWp.skip ?_
      refine nT ?_
      refine AWp.seq ?_
      refine AWp.block ?_
      refine AWp.seq ?_
      obtain ⟨a11, e12, hsK16⟩ := bindS hsK16
      obtain ⟨f13, f14⟩ := gtI e12
      refine AWp.rg hT hA {} (by (repeat (cbv; simp only [c10, f13, f14])); first | done | cbv) (lb rfl) ?_
      refine nT ?_
      rcases tf (A.zeq a11 x2) with c15 | c15
      · replace hsK16 := cT c15 hsK16
        refine AWp.cdT rfl (by first | rfl | simp only [c10, c15, Bool.not_true, Bool.not_false, cond_true, cond_false]) ?_
        refine AWp.seq ?_
        refine AWp.rg hT hA {} (by (repeat (cbv; simp only [c10, c15])); first | done | cbv) (lb rfl) ?_
        refine nT ?_
        refine AWp.ret ?_
        refine rB ?_
        refine rT ?_
        refine rT ?_
        refine exL hsK16 fun hx => ?_
        subst hx
        refine oxR ?_
        replace hkK16 := (eR (hK16 _ hkK16))
        refine rB ?_
        refine rT ?_
        cases soI hkK16
        exact ⟨rfl, rfl, rfl, lb rfl, _, rfl⟩
      · replace hsK16 := cF c15 hsK16
        refine AWp.cdF rfl (by first | rfl | simp only [c10, c15, Bool.not_true, Bool.not_false, cond_true, cond_false]) ?_
        refine AWp.skip ?_
        refine nB ?_
        refine nT ?_
        refine AWp.rg hT hA {} (by (repeat (cbv; simp only [c10, c15])); first | done | cbv) (lb rfl) ?_
        exact nT ⟨_, (soI hsK16).symm, rfl, (by first | cbv | ((repeat (cbv; simp only [c10, c15])); first | done | cbv))⟩
    · replace hsK16 := cF c10 hsK16
      refine AWp.cdF rfl (by first | rfl | simp only [c10, Bool.not_true, Bool.not_false, cond_true, cond_false]) ?_
      refine AWp.exit ?_
      refine xT ?_
      refine xT ?_
      refine exL hsK16 fun hx => ?_
      subst hx
      exact oxI ⟨rfl, hkK16, (by first | cbv | ((repeat (cbv; simp only [c10])); first | done | cbv))⟩
  · rintro _ ⟨hkK16, rfl⟩
    have h := (eL (hK16 _ hkK16))
    refine xB ?_
    refine nT ?_
    refine AWp.seq ?_
    refine AWp.rg hT hA {} (by cbv) (lb rfl) ?_
    refine nT ?_
    refine AWp.ret ?_
    cases soI h
    exact ⟨rfl, rfl, rfl, lb rfl, _, rfl⟩

theorem H95aw {A : Ar} (hA : A = Ar.std) {x1 : List D} {x2 : List D} {x3 : List D} {v137 : Bool} (h : H95a A x1 x2 x3 = some v137) : ACall Try.prog 95 [(.d (.list 4 x1)), (.d (.list 6 x2)), (.d (.list 1 x3))] [] (.d (.bool v137)) [] := by
  unfold H95a at h
  refine ACall.enter hT (fn := Try.f95) Try.func95 rfl (by decide) (by simp [Try.f95]) rfl rfl rfl rfl (lb rfl) ?_
  refine AWp.seq ?_
  refine AWp.rg hT hA {} (by cbv) (lb rfl) ?_
  refine nT ?_
  refine AWp.seq ?_
  obtain ⟨_, e7, h⟩ := bindS h
  have f4 := ckI e7
  obtain ⟨_, e8, h⟩ := bindS h
  have f5 := ckI e8
  obtain ⟨_, e9, h⟩ := bindS h
  have f6 := ckI e9
  refine AWp.rg hT hA {} (by (repeat (cbv; simp only [f4, f5, f6])); first | done | cbv) (lb rfl) ?_
  refine nT ?_
  refine AWp.seq ?_
  refine AWp.seq ?_
  refine AWp.rg hT hA {} (by cbv) (lb rfl) ?_
  refine nT ?_
  refine AWp.block ?_
  obtain ⟨xK136, hxK136, K136, hK136, hkK136⟩ := bindK h
  refine AWp.cutX 0 [] [] 1 (lb rfl) (fun τ => ∃ v134, K136 (.inl v134) = some v137 ∧ τ = { env := [], heap := [(.arr 1 v134)], n := 70 }) ?_ ?_
  · skip
    refine AWp.iter hxK136 [0, 1, 2, 7, 8] [] 1 (lb rfl) (fun (v71, v72) => { env := [(0, (.d (.list 4 x1))), (1, (.d (.list 6 x2))), (2, (.d (.list 1 x3))), (7, (.mref 0 1 0 (A.len x1))), (8, (.d (.int .i64 v71)))], heap := [(.arr 1 v72)], n := 70 }) ⟨rfl, (by cbv)⟩ ?_
    rintro ⟨v71, v72⟩ eK136 hsK136
    dsimp only [H95aL0] at hsK136
    refine AWp.seq ?_
    refine AWp.seq ?_
    refine AWp.rg hT hA {} (by cbv) (lb rfl) ?_
    refine nT ?_
    rcases tf (A.zlt v71 (A.len x3)) with c73 | c73
    · replace hsK136 := cT c73 hsK136
      refine AWp.cdT rfl (by first | rfl | simp only [c73, Bool.not_true, Bool.not_false, cond_true, cond_false]) ?_
      refine AWp.skip ?_
      refine nT ?_
      refine AWp.seq ?_
      refine AWp.block ?_
      refine AWp.seq ?_
      obtain ⟨a74, e75, hsK136⟩ := bindS hsK136
      obtain ⟨f76, f77⟩ := gtI e75
      obtain ⟨⟨a78, a79, a80, a81, a82, a83⟩, e84, hsK136⟩ := bindS hsK136
      obtain ⟨f85, f86⟩ := gtI e84
      refine AWp.rg hT hA { tk := [26] } (by (repeat (cbv; simp only [c73, f76, f77, f85, f86])); first | done | cbv) (lb rfl) ?_
      refine nT ?_
      refine AWp.seq ?_
      obtain ⟨⟨a87, a88, a89, a90⟩, e91, hsK136⟩ := bindS hsK136
      obtain ⟨f92, f93⟩ := gtI e91
      refine AWp.rg hT hA { tk := [31] } (by (repeat (cbv; simp only [c73, f92, f93])); first | done | cbv) (lb rfl) ?_
      refine nT ?_
      refine AWp.seq ?_
      refine AWp.seq ?_
      obtain ⟨v110, hvK111, hsK136⟩ := bindS hsK136
      refine AWp.cutN [0, 1, 2, 7, 8, 9, 10, 52] [] 1 (lb rfl) (fun τ => τ = { env := [(0, (.d (.list 4 x1))), (1, (.d (.list 6 x2))), (2, (.d (.list 1 x3))), (7, (.mref 0 1 0 (A.len x1))), (8, (.d (.int .i64 v71))), (9, (.lbox [(.d (.int .i64 a78)), (.d (.int .i64 a79)), (.d (.int .i64 a80)), (.d (.int .i64 a81)), (.d (.int .i64 a82)), (.d (.int .i64 a83))])), (10, (.lbox [(.d (.int .i64 a87)), (.d (.int .i64 a88)), (.d (.list 1 a89)), (.d (.list 1 a90))])), (52, (.d (.bool v110)))], heap := [(.arr 1 v72)], n := 70 }) ?_ ?_
      · skip
        rcases tf (A.zeq a83 0) with c94 | c94
        · replace hvK111 := cT c94 hvK111
          refine AWp.rd hT hA {} rfl (by (repeat (cbv; simp only [c73, c94])); first | done | cbv) (by kernel_rfl) (lb rfl) ?_
          cases soI hvK111
          exact oNi ⟨rfl, (by first | cbv | ((repeat (cbv; simp only [c73, c94])); first | done | cbv))⟩
        · replace hvK111 := cF c94 hvK111
          obtain ⟨_, e95, hvK111⟩ := bindS hvK111
          have f97 := ckI e95
          obtain ⟨_, e96, hvK111⟩ := bindS hvK111
          have f98 := ckI e96
          obtain ⟨a99, e100, hvK111⟩ := bindS hvK111
          have f101 := gcI e100
          obtain ⟨a102, e103, hvK111⟩ := bindS hvK111
          obtain ⟨f104, f105⟩ := gtI e103
          obtain ⟨a106, e107, hvK111⟩ := bindS hvK111
          obtain ⟨f108, f109⟩ := gtI e107
          refine AWp.rd hT hA {} rfl (by (repeat (cbv; simp only [c73, c94, f97, f98, f101, f104, f105, f108, f109])); first | done | cbv) (by kernel_rfl) (lb rfl) ?_
          cases soI hvK111
          exact oNi ⟨rfl, (by first | cbv | ((repeat (cbv; simp only [c73, c94])); first | done | cbv))⟩
      · rintro _ rfl
        refine nT ?_
        rcases tf v110 with c112 | c112
        · replace hsK136 := cT c112 hsK136
          refine AWp.cdT rfl (by first | rfl | simp only [c112, Bool.not_true, Bool.not_false, cond_true, cond_false]) ?_
          refine AWp.seq ?_
          refine AWp.rg hT hA {} (by (repeat (cbv; simp only [c112])); first | done | cbv) (lb rfl) ?_
          refine nT ?_
          refine AWp.ret ?_
          refine rT ?_
          refine rB ?_
          refine rT ?_
          refine rT ?_
          refine exL hsK136 fun hx => ?_
          subst hx
          refine oxR ?_
          replace hkK136 := (eR (hK136 _ hkK136))
          refine rB ?_
          refine rT ?_
          cases soI hkK136
          exact ⟨rfl, rfl, rfl, lb rfl, _, rfl⟩
        · replace hsK136 := cF c112 hsK136
          refine AWp.cdF rfl (by first | rfl | simp only [c112, Bool.not_true, Bool.not_false, cond_true, cond_false]) ?_
          refine AWp.skip ?_
          refine nT ?_
          obtain ⟨_, e113, hsK136⟩ := bindS hsK136
          have f115 := ckI e113
          obtain ⟨_, e114, hsK136⟩ := bindS hsK136
          have f116 := ckI e114
          obtain ⟨a117, e118, hsK136⟩ := bindS hsK136
          have f119 := gcI e118
          obtain ⟨a120, e121, hsK136⟩ := bindS hsK136
          obtain ⟨f122, f123⟩ := gtI e121
          obtain ⟨a124, e125, hsK136⟩ := bindS hsK136
          obtain ⟨f126, f127⟩ := gtI e125
          obtain ⟨_, e128, hsK136⟩ := bindS hsK136
          have f130 := ckI e128
          obtain ⟨_, e129, hsK136⟩ := bindS hsK136
          have f131 := ckI e129
          obtain ⟨d132, e133, hsK136⟩ := bindS hsK136
          refine AWp.rd hT hA { tk := [68] } rfl (by (repeat (cbv; simp only [c112, f115, f116, f119, f122, f123, f126, f127, f130, f131, e133])); first | done | cbv) (by kernel_rfl) (lb rfl) ?_
          refine nB ?_
          refine nT ?_
          refine AWp.rg hT hA {} (by (repeat (cbv; simp only [c112])); first | done | cbv) (lb rfl) ?_
          exact nT ⟨_, (soI hsK136).symm, rfl, (by first | cbv | ((repeat (cbv; simp only [c112])); first | done | cbv))⟩
    · replace hsK136 := cF c73 hsK136
      refine AWp.cdF rfl (by first | rfl | simp only [c73, Bool.not_true, Bool.not_false, cond_true, cond_false]) ?_
      refine AWp.exit ?_
      refine xT ?_
      refine xT ?_
      refine exL hsK136 fun hx => ?_
      subst hx
      exact oxI ⟨rfl, _, hkK136, (by first | cbv | ((repeat (cbv; simp only [c73])); first | done | cbv))⟩
  · rintro _ ⟨v134, hkK136, rfl⟩
    have h := (eL (hK136 _ hkK136))
    refine xB ?_
    refine nT ?_
    refine AWp.seq ?_
    refine AWp.rg hT hA {} (by cbv) (lb rfl) ?_
    refine nT ?_
    refine AWp.ret ?_
    cases soI h
    exact ⟨rfl, rfl, rfl, lb rfl, _, rfl⟩

theorem H108aw {A : Ar} (hA : A = Ar.std) {x1 : List D} {x2 : List D} {v73 : Bool} (h : H108a A x1 x2 = some v73) : ACall Try.prog 108 [(.d (.list 6 x1)), (.d (.list 1 x2))] [] (.d (.bool v73)) [] := by
  unfold H108a at h
  refine ACall.enter hT (fn := Try.f108) Try.func108 rfl (by decide) (by simp [Try.f108]) rfl rfl rfl rfl (lb rfl) ?_
  refine AWp.seq ?_
  refine AWp.rg hT hA {} (by cbv) (lb rfl) ?_
  refine nT ?_
  refine AWp.seq ?_
  refine AWp.seq ?_
  refine AWp.rg hT hA {} (by cbv) (lb rfl) ?_
  refine nT ?_
  refine AWp.block ?_
  obtain ⟨xK72, hxK72, K72, hK72, hkK72⟩ := bindK h
  refine AWp.cutX 0 [] [] 0 (lb rfl) (fun τ => K72 (.inl ()) = some v73 ∧ τ = { env := [], heap := [], n := 54 }) ?_ ?_
  · skip
    refine AWp.iter hxK72 [0, 1, 5] [] 0 (lb rfl) (fun v6 => { env := [(0, (.d (.list 6 x1))), (1, (.d (.list 1 x2))), (5, (.d (.int .i64 v6)))], heap := [], n := 54 }) ⟨rfl, (by cbv)⟩ ?_
    rintro v6 eK72 hsK72
    dsimp only [H108aL1] at hsK72
    refine AWp.seq ?_
    refine AWp.seq ?_
    refine AWp.rg hT hA {} (by cbv) (lb rfl) ?_
    refine nT ?_
    rcases tf (A.zlt v6 (A.len x2)) with c7 | c7
    · replace hsK72 := cT c7 hsK72
      refine AWp.cdT rfl (by first | rfl | simp only [c7, Bool.not_true, Bool.not_false, cond_true, cond_false]) ?_
      refine AWp.skip ?_
      refine nT ?_
      refine AWp.seq ?_
      refine AWp.block ?_
      refine AWp.seq ?_
      refine AWp.rg hT hA {} (by (repeat (cbv; simp only [c7])); first | done | cbv) (lb rfl) ?_
      refine nT ?_
      refine AWp.block ?_
      obtain ⟨xK71, hxK71, K71, hK71, hkK71⟩ := bindK hsK72
      refine AWp.cutX 2 [0, 1, 5] [] 0 (lb rfl) (fun τ => K71 (.inl ()) = some eK72 ∧ τ = { env := [(0, (.d (.list 6 x1))), (1, (.d (.list 1 x2))), (5, (.d (.int .i64 v6)))], heap := [], n := 54 }) ?_ ?_
      · skip
        refine AWp.iter hxK71 [0, 1, 5, 6] [] 0 (lb rfl) (fun v39 => { env := [(0, (.d (.list 6 x1))), (1, (.d (.list 1 x2))), (5, (.d (.int .i64 v6))), (6, (.d (.int .i64 v39)))], heap := [], n := 54 }) ⟨rfl, (by first | cbv | ((repeat (cbv; simp only [c7])); first | done | cbv))⟩ ?_
        rintro v39 eK71 hsK71
        dsimp only [H108aL0] at hsK71
        refine AWp.seq ?_
        refine AWp.seq ?_
        refine AWp.rg hT hA {} (by cbv) (lb rfl) ?_
        refine nT ?_
        rcases tf (A.zlt v39 v6) with c40 | c40
        · replace hsK71 := cT c40 hsK71
          refine AWp.cdT rfl (by first | rfl | simp only [c40, Bool.not_true, Bool.not_false, cond_true, cond_false]) ?_
          refine AWp.skip ?_
          refine nT ?_
          refine AWp.seq ?_
          refine AWp.block ?_
          refine AWp.seq ?_
          obtain ⟨v68, hvK69, hsK71⟩ := bindS hsK71
          refine AWp.cutN [0, 1, 5, 6, 53] [] 0 (lb rfl) (fun τ => τ = { env := [(0, (.d (.list 6 x1))), (1, (.d (.list 1 x2))), (5, (.d (.int .i64 v6))), (6, (.d (.int .i64 v39))), (53, (.d (.bool v68)))], heap := [], n := 54 }) ?_ ?_
          · skip
            obtain ⟨a41, e42, hvK69⟩ := bindS hvK69
            obtain ⟨f43, f44⟩ := gtI e42
            obtain ⟨⟨a45, a46, a47, a48, a49, a50⟩, e51, hvK69⟩ := bindS hvK69
            obtain ⟨f52, f53⟩ := gtI e51
            obtain ⟨a54, e55, hvK69⟩ := bindS hvK69
            obtain ⟨f56, f57⟩ := gtI e55
            obtain ⟨⟨a58, a59, a60, a61, a62, a63⟩, e64, hvK69⟩ := bindS hvK69
            obtain ⟨f65, f66⟩ := gtI e64
            rcases tf (A.zeq a45 a58) with c67 | c67
            · replace hvK69 := cT c67 hvK69
              refine AWp.rd hT hA {} rfl (by (repeat (cbv; simp only [c40, c67, f43, f44, f52, f53, f56, f57, f65, f66])); first | done | cbv) (by kernel_rfl) (lb rfl) ?_
              cases soI hvK69
              exact oNi ⟨rfl, (by first | cbv | ((repeat (cbv; simp only [c40, c67])); first | done | cbv))⟩
            · replace hvK69 := cF c67 hvK69
              refine AWp.rd hT hA {} rfl (by (repeat (cbv; simp only [c40, c67, f43, f44, f52, f53, f56, f57, f65, f66])); first | done | cbv) (by kernel_rfl) (lb rfl) ?_
              cases soI hvK69
              exact oNi ⟨rfl, (by first | cbv | ((repeat (cbv; simp only [c40, c67])); first | done | cbv))⟩
          · rintro _ rfl
            refine nT ?_
            rcases tf v68 with c70 | c70
            · replace hsK71 := cT c70 hsK71
              refine AWp.cdT rfl (by first | rfl | simp only [c70, Bool.not_true, Bool.not_false, cond_true, cond_false]) ?_
              refine AWp.seq ?_
              refine AWp.rg hT hA {} (by (repeat (cbv; simp only [c70])); first | done | cbv) (lb rfl) ?_
              refine nT ?_
              refine AWp.ret ?_
              refine rB ?_
              refine rT ?_
              refine rT ?_
              refine exL hsK71 fun hx => ?_
              subst hx
              refine oxR ?_
              replace hkK71 := (eR (hK71 _ hkK71))
              refine rB ?_
              refine rB ?_
              refine rT ?_
              refine rT ?_
              refine exL hkK71 fun hx => ?_
              subst hx
              refine oxR ?_
              replace hkK72 := (eR (hK72 _ hkK72))
              refine rB ?_
              refine rT ?_
              cases soI hkK72
              exact ⟨rfl, rfl, rfl, lb rfl, _, rfl⟩
            · replace hsK71 := cF c70 hsK71
              refine AWp.cdF rfl (by first | rfl | simp only [c70, Bool.not_true, Bool.not_false, cond_true, cond_false]) ?_
              refine AWp.skip ?_
              refine nB ?_
              refine nT ?_
              refine AWp.rg hT hA {} (by (repeat (cbv; simp only [c70])); first | done | cbv) (lb rfl) ?_
              exact nT ⟨_, (soI hsK71).symm, rfl, (by first | cbv | ((repeat (cbv; simp only [c70])); first | done | cbv))⟩
        · replace hsK71 := cF c40 hsK71
          refine AWp.cdF rfl (by first | rfl | simp only [c40, Bool.not_true, Bool.not_false, cond_true, cond_false]) ?_
          refine AWp.exit ?_
          refine xT ?_
          refine xT ?_
          refine exL hsK71 fun hx => ?_
          subst hx
          exact oxI ⟨rfl, hkK71, (by first | cbv | ((repeat (cbv; simp only [c40])); first | done | cbv))⟩
      · rintro _ ⟨hkK71, rfl⟩
        have hsK72 := (eL (hK71 _ hkK71))
        refine xB ?_
        refine nB ?_
        refine nT ?_
        refine AWp.rg hT hA {} (by cbv) (lb rfl) ?_
        exact nT ⟨_, (soI hsK72).symm, rfl, (by cbv)⟩
    · replace hsK72 := cF c7 hsK72
      refine AWp.cdF rfl (by first | rfl | simp only [c7, Bool.not_true, Bool.not_false, cond_true, cond_false]) ?_
      refine AWp.exit ?_
      refine xT ?_
      refine xT ?_
      refine exL hsK72 fun hx => ?_
      subst hx
      exact oxI ⟨rfl, hkK72, (by first | cbv | ((repeat (cbv; simp only [c7])); first | done | cbv))⟩
  · rintro _ ⟨hkK72, rfl⟩
    have h := (eL (hK72 _ hkK72))
    refine xB ?_
    refine nT ?_
    refine AWp.seq ?_
    refine AWp.rg hT hA {} (by cbv) (lb rfl) ?_
    refine nT ?_
    refine AWp.ret ?_
    cases soI h
    exact ⟨rfl, rfl, rfl, lb rfl, _, rfl⟩

theorem H94aw {A : Ar} (hA : A = Ar.std) {x1 : List D} {x2 : List D} {v71 : Bool} (h : H94a A x1 x2 = some v71) : ACall Try.prog 94 [(.d (.list 6 x1)), (.d (.list 1 x2))] [] (.d (.bool v71)) [] := by
  unfold H94a at h
  refine ACall.enter hT (fn := Try.f94) Try.func94 rfl (by decide) (by simp [Try.f94]) rfl rfl rfl rfl (lb rfl) ?_
  refine AWp.seq ?_
  refine AWp.rg hT hA {} (by cbv) (lb rfl) ?_
  refine nT ?_
  refine AWp.seq ?_
  refine AWp.seq ?_
  refine AWp.rg hT hA {} (by cbv) (lb rfl) ?_
  refine nT ?_
  refine AWp.block ?_
  obtain ⟨xK70, hxK70, K70, hK70, hkK70⟩ := bindK h
  refine AWp.cutX 0 [] [] 0 (lb rfl) (fun τ => K70 (.inl ()) = some v71 ∧ τ = { env := [], heap := [], n := 33 }) ?_ ?_
  · skip
    refine AWp.iter hxK70 [0, 1, 5] [] 0 (lb rfl) (fun v6 => { env := [(0, (.d (.list 6 x1))), (1, (.d (.list 1 x2))), (5, (.d (.int .i64 v6)))], heap := [], n := 33 }) ⟨rfl, (by cbv)⟩ ?_
    rintro v6 eK70 hsK70
    dsimp only [H94aL1] at hsK70
    refine AWp.seq ?_
    refine AWp.seq ?_
    refine AWp.rg hT hA {} (by cbv) (lb rfl) ?_
    refine nT ?_
    rcases tf (A.zlt v6 (A.len x2)) with c7 | c7
    · replace hsK70 := cT c7 hsK70
      refine AWp.cdT rfl (by first | rfl | simp only [c7, Bool.not_true, Bool.not_false, cond_true, cond_false]) ?_
      refine AWp.skip ?_
      refine nT ?_
      refine AWp.seq ?_
      refine AWp.block ?_
      refine AWp.seq ?_
      refine AWp.rg hT hA {} (by (repeat (cbv; simp only [c7])); first | done | cbv) (lb rfl) ?_
      refine nT ?_
      refine AWp.block ?_
      obtain ⟨xK69, hxK69, K69, hK69, hkK69⟩ := bindK hsK70
      refine AWp.cutX 2 [0, 1, 5] [] 0 (lb rfl) (fun τ => K69 (.inl ()) = some eK70 ∧ τ = { env := [(0, (.d (.list 6 x1))), (1, (.d (.list 1 x2))), (5, (.d (.int .i64 v6)))], heap := [], n := 33 }) ?_ ?_
      · skip
        refine AWp.iter hxK69 [0, 1, 5, 6] [] 0 (lb rfl) (fun v38 => { env := [(0, (.d (.list 6 x1))), (1, (.d (.list 1 x2))), (5, (.d (.int .i64 v6))), (6, (.d (.int .i64 v38)))], heap := [], n := 33 }) ⟨rfl, (by first | cbv | ((repeat (cbv; simp only [c7])); first | done | cbv))⟩ ?_
        rintro v38 eK69 hsK69
        dsimp only [H94aL0] at hsK69
        refine AWp.seq ?_
        refine AWp.seq ?_
        refine AWp.rg hT hA {} (by cbv) (lb rfl) ?_
        refine nT ?_
        rcases tf (A.zlt v38 v6) with c39 | c39
        · replace hsK69 := cT c39 hsK69
          refine AWp.cdT rfl (by first | rfl | simp only [c39, Bool.not_true, Bool.not_false, cond_true, cond_false]) ?_
          refine AWp.skip ?_
          refine nT ?_
          refine AWp.seq ?_
          refine AWp.block ?_
          refine AWp.seq ?_
          refine AWp.regionDraw rfl (lb rfl) ?_
          obtain ⟨a40, e41, hsK69⟩ := bindS hsK69
          obtain ⟨f42, f43⟩ := gtI e41
          obtain ⟨⟨a44, a45, a46, a47, a48, a49⟩, e50, hsK69⟩ := bindS hsK69
          obtain ⟨f51, f52⟩ := gtI e50
          obtain ⟨a53, e54, hsK69⟩ := bindS hsK69
          obtain ⟨f55, f56⟩ := gtI e54
          obtain ⟨⟨a57, a58, a59, a60, a61, a62⟩, e63, hsK69⟩ := bindS hsK69
          obtain ⟨f64, f65⟩ := gtI e63
          obtain ⟨r67, e66, hsK69⟩ := bindS hsK69
          refine DOps.c0 hT hA {} rfl (by (repeat (cbv; simp only [c39, f42, f43, f51, f52, f55, f56, f64, f65])); first | done | cbv) (H68w hA e66) rfl rfl (lb rfl) rfl rfl ?_
          refine DOps.cd hT hA {} rfl (by (repeat (cbv; simp only [c39, f42, f43, f51, f52, f55, f56, f64, f65])); first | done | cbv) (by kernel_rfl) ?_
          refine nT ?_
          rcases tf r67 with c68 | c68
          · replace hsK69 := cT c68 hsK69
            refine AWp.cdT rfl (by first | rfl | simp only [c39, c68, Bool.not_true, Bool.not_false, cond_true, cond_false]) ?_
            refine AWp.seq ?_
            refine AWp.rg hT hA {} (by (repeat (cbv; simp only [c39, c68])); first | done | cbv) (lb rfl) ?_
            refine nT ?_
            refine AWp.ret ?_
            refine rB ?_
            refine rT ?_
            refine rT ?_
            refine exL hsK69 fun hx => ?_
            subst hx
            refine oxR ?_
            replace hkK69 := (eR (hK69 _ hkK69))
            refine rB ?_
            refine rB ?_
            refine rT ?_
            refine rT ?_
            refine exL hkK69 fun hx => ?_
            subst hx
            refine oxR ?_
            replace hkK70 := (eR (hK70 _ hkK70))
            refine rB ?_
            refine rT ?_
            cases soI hkK70
            exact ⟨rfl, rfl, rfl, lb rfl, _, rfl⟩
          · replace hsK69 := cF c68 hsK69
            refine AWp.cdF rfl (by first | rfl | simp only [c39, c68, Bool.not_true, Bool.not_false, cond_true, cond_false]) ?_
            refine AWp.skip ?_
            refine nB ?_
            refine nT ?_
            refine AWp.rg hT hA {} (by (repeat (cbv; simp only [c39, c68])); first | done | cbv) (lb rfl) ?_
            exact nT ⟨_, (soI hsK69).symm, rfl, (by first | cbv | ((repeat (cbv; simp only [c39, c68])); first | done | cbv))⟩
        · replace hsK69 := cF c39 hsK69
          refine AWp.cdF rfl (by first | rfl | simp only [c39, Bool.not_true, Bool.not_false, cond_true, cond_false]) ?_
          refine AWp.exit ?_
          refine xT ?_
          refine xT ?_
          refine exL hsK69 fun hx => ?_
          subst hx
          exact oxI ⟨rfl, hkK69, (by first | cbv | ((repeat (cbv; simp only [c39])); first | done | cbv))⟩
      · rintro _ ⟨hkK69, rfl⟩
        have hsK70 := (eL (hK69 _ hkK69))
        refine xB ?_
        refine nB ?_
        refine nT ?_
        refine AWp.rg hT hA {} (by cbv) (lb rfl) ?_
        exact nT ⟨_, (soI hsK70).symm, rfl, (by cbv)⟩
    · replace hsK70 := cF c7 hsK70
      refine AWp.cdF rfl (by first | rfl | simp only [c7, Bool.not_true, Bool.not_false, cond_true, cond_false]) ?_
      refine AWp.exit ?_
      refine xT ?_
      refine xT ?_
      refine exL hsK70 fun hx => ?_
      subst hx
      exact oxI ⟨rfl, hkK70, (by first | cbv | ((repeat (cbv; simp only [c7])); first | done | cbv))⟩
  · rintro _ ⟨hkK70, rfl⟩
    have h := (eL (hK70 _ hkK70))
    refine xB ?_
    refine nT ?_
    refine AWp.seq ?_
    refine AWp.rg hT hA {} (by cbv) (lb rfl) ?_
    refine nT ?_
    refine AWp.ret ?_
    cases soI h
    exact ⟨rfl, rfl, rfl, lb rfl, _, rfl⟩

theorem H76Bw {A : Ar} (hA : A = Ar.std) {self68 : List D → Bool → List D → List D → Bool → Int → List D → (Option (Bool × Int × List D))} (ih68 : ∀ {x1 : List D} {x2 : Bool} {x3 : List D} {x4 : List D} {x5 : Bool} {x6 : Int} {x7 : List D} {y1 : Bool} {y2 : Int} {y3 : List D}, self68 x1 x2 x3 x4 x5 x6 x7 = some (y1, y2, y3) → ACall Try.prog 76 [(.ptr 0 0), (.d (.list 1 x1)), (.d (.bool x2))] [(.cells [(.d (.list 4 x3)), (.d (.list 6 x4)), (.d (.bool x5)), (.d (.int .i64 x6)), (.d (.list 1 x7))])] (.tuple []) [(.cells [(.d (.list 4 x3)), (.d (.list 6 x4)), (.d (.bool y1)), (.d (.int .i64 y2)), (.d (.list 1 y3))])]) {x1 : List D} {x2 : Bool} {x3 : List D} {x4 : List D} {x5 : Bool} {x6 : Int} {x7 : List D} {v106 : Bool} {v107 : Int} {v108 : List D} (h : H76B A self68 x1 x2 x3 x4 x5 x6 x7 = some (v106, v107, v108)) : ACall Try.prog 76 [(.ptr 0 0), (.d (.list 1 x1)), (.d (.bool x2))] [(.cells [(.d (.list 4 x3)), (.d (.list 6 x4)), (.d (.bool x5)), (.d (.int .i64 x6)), (.d (.list 1 x7))])] (.tuple []) [(.cells [(.d (.list 4 x3)), (.d (.list 6 x4)), (.d (.bool v106)), (.d (.int .i64 v107)), (.d (.list 1 v108))])] := by
  unfold H76B at h
  refine ACall.enter hT (fn := Try.f76) Try.func76 rfl (by decide) (by simp [Try.f76]) rfl rfl rfl rfl (lb rfl) ?_
  refine AWp.seq ?_
  refine AWp.seq ?_
  refine AWp.region ?_
  obtain ⟨r9, e8, h⟩ := bindS h
  refine AOps.cc hT hA {} (by cbv) (lb rfl) (H93aw hA e8) rfl (.inr rfl) rfl rfl rfl (lb rfl) rfl rfl ?_
  refine AOps.cd hT hA {} (by cbv) (lb rfl) ?_
  refine nT ?_
  obtain ⟨⟨v18, v19⟩, hvK20, h⟩ := bindS h
  refine AWp.cutN [0, 1, 2] [] 1 (lb rfl) (fun τ => τ = { env := [(0, (.ptr 0 0)), (1, (.d (.list 1 x1))), (2, (.d (.bool x2)))], heap := [(.cells [(.d (.list 4 x3)), (.d (.list 6 x4)), (.d (.bool x5)), (.d (.int .i64 v18)), (.d (.list 1 v19))])], n := 107 }) ?_ ?_
  · skip
    rcases tf r9 with c10 | c10
    · replace hvK20 := cT c10 hvK20
      refine AWp.cdT rfl (by first | rfl | simp only [c10, Bool.not_true, Bool.not_false, cond_true, cond_false]) ?_
      refine AWp.seq ?_
      refine AWp.seq ?_
      refine AWp.rg hT hA {} (by (repeat (cbv; simp only [c10])); first | done | cbv) (lb rfl) ?_
      refine nT ?_
      obtain ⟨v16, hvK17, hvK20⟩ := bindS hvK20
      refine AWp.cutN [0, 1, 2] [] 1 (lb rfl) (fun τ => τ = { env := [(0, (.ptr 0 0)), (1, (.d (.list 1 x1))), (2, (.d (.bool x2)))], heap := [(.cells [(.d (.list 4 x3)), (.d (.list 6 x4)), (.d (.bool x5)), (.d (.int .i64 x6)), (.d (.list 1 v16))])], n := 107 }) ?_ ?_
      · skip
        rcases tf (A.zeq x6 0) with c11 | c11
        · replace hvK17 := cT c11 hvK17
          refine AWp.cdT rfl (by first | rfl | simp only [c10, c11, Bool.not_true, Bool.not_false, cond_true, cond_false]) ?_
          obtain ⟨l12, e13, hvK17⟩ := bindS hvK17
          obtain ⟨f14, f15⟩ := apI e13
          refine AWp.rg hT hA {} (by (repeat (cbv; simp only [c10, c11, f14, f15])); first | done | cbv) (lb rfl) ?_
          cases soI hvK17
          exact oNi ⟨rfl, (by first | cbv | ((repeat (cbv; simp only [c10, c11])); first | done | cbv))⟩
        · replace hvK17 := cF c11 hvK17
          refine AWp.cdF rfl (by first | rfl | simp only [c10, c11, Bool.not_true, Bool.not_false, cond_true, cond_false]) ?_
          refine AWp.skip ?_
          cases soI hvK17
          exact oNi ⟨rfl, (by first | cbv | ((repeat (cbv; simp only [c10, c11])); first | done | cbv))⟩
      · rintro _ rfl
        refine nT ?_
        refine AWp.rg hT hA {} (by cbv) (lb rfl) ?_
        cases soI hvK20
        exact oNi ⟨rfl, (by cbv)⟩
    · replace hvK20 := cF c10 hvK20
      refine AWp.cdF rfl (by first | rfl | simp only [c10, Bool.not_true, Bool.not_false, cond_true, cond_false]) ?_
      refine AWp.skip ?_
      cases soI hvK20
      exact oNi ⟨rfl, (by first | cbv | ((repeat (cbv; simp only [c10])); first | done | cbv))⟩
  · rintro _ rfl
    refine nT ?_
    refine AWp.seq ?_
    refine AWp.rg hT hA {} (by cbv) (lb rfl) ?_
    refine nT ?_
    refine AWp.block ?_
    obtain ⟨xK105, hxK105, K105, hK105, hkK105⟩ := bindK h
    refine AWp.cutX 0 [] [] 1 (lb rfl) (fun τ => ∃ v102 v103 v104, K105 (v102, v103, v104) = some (v106, v107, v108) ∧ τ = { env := [], heap := [(.cells [(.d (.list 4 x3)), (.d (.list 6 x4)), (.d (.bool v102)), (.d (.int .i64 v103)), (.d (.list 1 v104))])], n := 107 }) ?_ ?_
    · skip
      refine AWp.iter hxK105 [0, 1, 2, 6] [] 1 (lb rfl) (fun (v59, v60, v61, v62, v63) => { env := [(0, (.ptr 0 0)), (1, (.d (.list 1 x1))), (2, (.d (.bool v59))), (6, (.d (.int .i64 v60)))], heap := [(.cells [(.d (.list 4 x3)), (.d (.list 6 x4)), (.d (.bool v61)), (.d (.int .i64 v62)), (.d (.list 1 v63))])], n := 107 }) ⟨rfl, (by cbv)⟩ ?_
      rintro ⟨v59, v60, v61, v62, v63⟩ eK105 hsK105
      dsimp only [H76L0] at hsK105
      refine AWp.seq ?_
      refine AWp.seq ?_
      obtain ⟨⟨v66, v67⟩, hvK68, hsK105⟩ := bindS hsK105
      refine AWp.cutN [0, 1, 2, 6, 49] [] 1 (lb rfl) (fun τ => τ = { env := [(0, (.ptr 0 0)), (1, (.d (.list 1 x1))), (2, (.d (.bool v66))), (6, (.d (.int .i64 v60))), (49, (.d (.bool v67)))], heap := [(.cells [(.d (.list 4 x3)), (.d (.list 6 x4)), (.d (.bool v61)), (.d (.int .i64 v62)), (.d (.list 1 v63))])], n := 107 }) ?_ ?_
      · skip
        rcases tf (A.zlt v60 (A.len x4)) with c64 | c64
        · replace hvK68 := cT c64 hvK68
          rcases tf v59 with c65 | c65
          · replace hvK68 := cT c65 hvK68
            refine AWp.rg hT hA {} (by (repeat (cbv; simp only [c64, c65])); first | done | cbv) (lb rfl) ?_
            cases soI hvK68
            exact oNi ⟨rfl, (by first | cbv | ((repeat (cbv; simp only [c64, c65])); first | done | cbv))⟩
          · replace hvK68 := cF c65 hvK68
            refine AWp.rg hT hA {} (by (repeat (cbv; simp only [c64, c65])); first | done | cbv) (lb rfl) ?_
            cases soI hvK68
            exact oNi ⟨rfl, (by first | cbv | ((repeat (cbv; simp only [c64, c65])); first | done | cbv))⟩
        · replace hvK68 := cF c64 hvK68
          refine AWp.rg hT hA {} (by (repeat (cbv; simp only [c64])); first | done | cbv) (lb rfl) ?_
          cases soI hvK68
          exact oNi ⟨rfl, (by first | cbv | ((repeat (cbv; simp only [c64])); first | done | cbv))⟩
      · rintro _ rfl
        refine nT ?_
        rcases tf v67 with c69 | c69
        · replace hsK105 := cT c69 hsK105
          refine AWp.cdT rfl (by first | rfl | simp only [c69, Bool.not_true, Bool.not_false, cond_true, cond_false]) ?_
          refine AWp.skip ?_
          refine nT ?_
          refine AWp.seq ?_
          refine AWp.block ?_
          refine AWp.seq ?_
          obtain ⟨l70, e71, hsK105⟩ := bindS hsK105
          obtain ⟨f72, f73⟩ := apI e71
          obtain ⟨l74, e75, hsK105⟩ := bindS hsK105
          obtain ⟨f76, f77⟩ := apI e75
          refine AWp.rg hT hA {} (by (repeat (cbv; simp only [c69, f72, f73, f76, f77])); first | done | cbv) (lb rfl) ?_
          refine nT ?_
          refine AWp.seq ?_
          obtain ⟨⟨v90, v91⟩, hvK92, hsK105⟩ := bindS hsK105
          refine AWp.cutN [0, 1, 2, 6, 7, 102] [] 1 (lb rfl) (fun τ => τ = { env := [(0, (.ptr 0 0)), (1, (.d (.list 1 x1))), (2, (.d (.bool v66))), (6, (.d (.int .i64 v60))), (7, (.d (.list 1 l74))), (102, (.d (.bool v90)))], heap := [(.cells [(.d (.list 4 x3)), (.d (.list 6 x4)), (.d (.bool v91)), (.d (.int .i64 v62)), (.d (.list 1 v63))])], n := 107 }) ?_ ?_
          · skip
            refine AWp.regionDraw rfl (lb rfl) ?_
            obtain ⟨r79, e78, hvK92⟩ := bindS hvK92
            refine DOps.c0 hT hA {} rfl (by (repeat (cbv; simp only [c69])); first | done | cbv) (H117aw hA e78) rfl rfl (lb rfl) rfl rfl ?_
            rcases tf r79 with c80 | c80
            · replace hvK92 := cT c80 hvK92
              refine DOps.cd hT hA {} rfl (by (repeat (cbv; simp only [c69, c80])); first | done | cbv) (by kernel_rfl) ?_
              cases soI hvK92
              exact oNi ⟨rfl, (by first | cbv | ((repeat (cbv; simp only [c69, c80])); first | done | cbv))⟩
            · replace hvK92 := cF c80 hvK92
              obtain ⟨r82, e81, hvK92⟩ := bindS hvK92
              refine DOps.c0 hT hA {} rfl (by (repeat (cbv; simp only [c69, c80])); first | done | cbv) (H95aw hA e81) rfl rfl (lb rfl) rfl rfl ?_
              rcases tf r82 with c83 | c83
              · replace hvK92 := cT c83 hvK92
                rcases tf v61 with c84 | c84
                · replace hvK92 := cT c84 hvK92
                  obtain ⟨r86, e85, hvK92⟩ := bindS hvK92
                  refine DOps.c0 hT hA {} rfl (by (repeat (cbv; simp only [c69, c80, c83, c84])); first | done | cbv) (H108aw hA e85) rfl rfl (lb rfl) rfl rfl ?_
                  rcases tf r86 with c87 | c87
                  · replace hvK92 := cT c87 hvK92
                    refine DOps.cd hT hA {} rfl (by (repeat (cbv; simp only [c69, c80, c83, c84, c87])); first | done | cbv) (by kernel_rfl) ?_
                    cases soI hvK92
                    exact oNi ⟨rfl, (by first | cbv | ((repeat (cbv; simp only [c69, c80, c83, c84, c87])); first | done | cbv))⟩
                  · replace hvK92 := cF c87 hvK92
                    refine DOps.cd hT hA {} rfl (by (repeat (cbv; simp only [c69, c80, c83, c84, c87])); first | done | cbv) (by kernel_rfl) ?_
                    cases soI hvK92
                    exact oNi ⟨rfl, (by first | cbv | ((repeat (cbv; simp only [c69, c80, c83, c84, c87])); first | done | cbv))⟩
                · replace hvK92 := cF c84 hvK92
                  obtain ⟨r89, e88, hvK92⟩ := bindS hvK92
                  refine DOps.c0 hT hA {} rfl (by (repeat (cbv; simp only [c69, c80, c83, c84])); first | done | cbv) (H94aw hA e88) rfl rfl (lb rfl) rfl rfl ?_
                  refine DOps.cd hT hA {} rfl (by (repeat (cbv; simp only [c69, c80, c83, c84])); first | done | cbv) (by kernel_rfl) ?_
                  cases soI hvK92
                  exact oNi ⟨rfl, (by first | cbv | ((repeat (cbv; simp only [c69, c80, c83, c84])); first | done | cbv))⟩
              · replace hvK92 := cF c83 hvK92
                refine DOps.cd hT hA {} rfl (by (repeat (cbv; simp only [c69, c80, c83])); first | done | cbv) (by kernel_rfl) ?_
                cases soI hvK92
                exact oNi ⟨rfl, (by first | cbv | ((repeat (cbv; simp only [c69, c80, c83])); first | done | cbv))⟩
          · rintro _ rfl
            refine nT ?_
            obtain ⟨⟨v98, v99, v100⟩, hvK101, hsK105⟩ := bindS hsK105
            refine AWp.cutN [0, 1, 2, 6] [] 1 (lb rfl) (fun τ => τ = { env := [(0, (.ptr 0 0)), (1, (.d (.list 1 x1))), (2, (.d (.bool v66))), (6, (.d (.int .i64 v60)))], heap := [(.cells [(.d (.list 4 x3)), (.d (.list 6 x4)), (.d (.bool v98)), (.d (.int .i64 v99)), (.d (.list 1 v100))])], n := 107 }) ?_ ?_
            · skip
              rcases tf v90 with c93 | c93
              · replace hvK101 := cT c93 hvK101
                refine AWp.cdT rfl (by first | rfl | simp only [c93, Bool.not_true, Bool.not_false, cond_true, cond_false]) ?_
                refine AWp.region ?_
                obtain ⟨⟨r95, r96, r97⟩, e94, hvK101⟩ := bindS hvK101
                refine AOps.cc hT hA {} (by (repeat (cbv; simp only [c93])); first | done | cbv) (lb rfl) (ih68 e94) rfl (.inl rfl) rfl rfl rfl (lb rfl) rfl rfl ?_
                refine AOps.cd hT hA {} (by (repeat (cbv; simp only [c93])); first | done | cbv) (lb rfl) ?_
                cases soI hvK101
                exact oNi ⟨rfl, (by first | cbv | ((repeat (cbv; simp only [c93])); first | done | cbv))⟩
              · replace hvK101 := cF c93 hvK101
                refine AWp.cdF rfl (by first | rfl | simp only [c93, Bool.not_true, Bool.not_false, cond_true, cond_false]) ?_
                refine AWp.skip ?_
                cases soI hvK101
                exact oNi ⟨rfl, (by first | cbv | ((repeat (cbv; simp only [c93])); first | done | cbv))⟩
            · rintro _ rfl
              refine nB ?_
              refine nT ?_
              refine AWp.rg hT hA {} (by cbv) (lb rfl) ?_
              exact nT ⟨_, (soI hsK105).symm, rfl, (by cbv)⟩
        · replace hsK105 := cF c69 hsK105
          refine AWp.cdF rfl (by first | rfl | simp only [c69, Bool.not_true, Bool.not_false, cond_true, cond_false]) ?_
          refine AWp.exit ?_
          refine xT ?_
          refine xT ?_
          refine exL hsK105 fun hx => ?_
          subst hx
          exact oxI ⟨rfl, _, _, _, hkK105, (by first | cbv | ((repeat (cbv; simp only [c69])); first | done | cbv))⟩
    · rintro _ ⟨v102, v103, v104, hkK105, rfl⟩
      have h := (hK105 _ hkK105)
      refine xB ?_
      cases soI h
      exact ⟨rfl, rfl, rfl, lb rfl, _, rfl⟩

theorem H76Rw {A : Ar} (hA : A = Ar.std) : ∀ (n : Nat) {x1 : List D} {x2 : Bool} {x3 : List D} {x4 : List D} {x5 : Bool} {x6 : Int} {x7 : List D} {v106 : Bool} {v107 : Int} {v108 : List D}, H76R A n x1 x2 x3 x4 x5 x6 x7 = some (v106, v107, v108) → ACall Try.prog 76 [(.ptr 0 0), (.d (.list 1 x1)), (.d (.bool x2))] [(.cells [(.d (.list 4 x3)), (.d (.list 6 x4)), (.d (.bool x5)), (.d (.int .i64 x6)), (.d (.list 1 x7))])] (.tuple []) [(.cells [(.d (.list 4 x3)), (.d (.list 6 x4)), (.d (.bool v106)), (.d (.int .i64 v107)), (.d (.list 1 v108))])]
  | 0, _, _, _, _, _, _, _, _, _, _, h => by cases h
  | n + 1, _, _, _, _, _, _, _, _, _, _, h => H76Bw hA (fun h => H76Rw hA n h) h

theorem H76w {A : Ar} (hA : A = Ar.std) {x1 : List D} {x2 : Bool} {x3 : List D} {x4 : List D} {x5 : Bool} {x6 : Int} {x7 : List D} {v106 : Bool} {v107 : Int} {v108 : List D} (h : H76 A x1 x2 x3 x4 x5 x6 x7 = some (v106, v107, v108)) : ACall Try.prog 76 [(.ptr 0 0), (.d (.list 1 x1)), (.d (.bool x2))] [(.cells [(.d (.list 4 x3)), (.d (.list 6 x4)), (.d (.bool x5)), (.d (.int .i64 x6)), (.d (.list 1 x7))])] (.tuple []) [(.cells [(.d (.list 4 x3)), (.d (.list 6 x4)), (.d (.bool v106)), (.d (.int .i64 v107)), (.d (.list 1 v108))])] := H76Rw hA fuel h

theorem H55w {A : Ar} (hA : A = Ar.std) {x1 : List D} {x2 : List D} {v11 : List D} {v12 : Int} (h : H55 A x1 x2 = some (v11, v12)) : ACall Try.prog 55 [(.d (.list 4 x1)), (.d (.list 6 x2))] [] (.tuple [(.d (.list 1 v11)), (.d (.int .i64 v12))]) [] := by
  unfold H55 at h
  refine ACall.enter hT (fn := Try.f55) Try.func55 rfl (by decide) (by simp [Try.f55]) rfl rfl rfl rfl (lb rfl) ?_
  refine AWp.seq ?_
  refine AWp.rg hT hA {} (by cbv) (lb rfl) ?_
  refine nT ?_
  refine AWp.seq ?_
  refine AWp.region ?_
  obtain ⟨r4, e3, h⟩ := bindS h
  refine AOps.cc hT hA {} (by cbv) (lb rfl) (H75w hA e3) rfl (.inl rfl) rfl rfl rfl (lb rfl) rfl rfl ?_
  refine AOps.cd hT hA {} (by cbv) (lb rfl) ?_
  refine nT ?_
  refine AWp.seq ?_
  refine AWp.seq ?_
  refine AWp.rg hT hA {} (by cbv) (lb rfl) ?_
  refine nT ?_
  rcases tf (A.zeq r4 0) with c5 | c5
  · replace h := cT c5 h
    refine AWp.cdF rfl (by first | rfl | simp only [c5, Bool.not_true, Bool.not_false, cond_true, cond_false]) ?_
    refine AWp.skip ?_
    refine nT ?_
    refine AWp.seq ?_
    refine AWp.rg hT hA { esc := [17] } (by (repeat (cbv; simp only [c5])); first | done | cbv) (lb rfl) ?_
    refine nT ?_
    refine AWp.seq ?_
    refine AWp.region ?_
    obtain ⟨⟨r7, r8, r9⟩, e6, h⟩ := bindS h
    refine AOps.cc hT hA {} (by (repeat (cbv; simp only [c5])); first | done | cbv) (lb rfl) (H76w hA e6) rfl (.inl rfl) rfl rfl rfl (lb rfl) rfl rfl ?_
    refine AOps.cd hT hA {} (by (repeat (cbv; simp only [c5])); first | done | cbv) (lb rfl) ?_
    refine nT ?_
    refine AWp.seq ?_
    refine AWp.seq ?_
    refine AWp.rg hT hA {} (by (repeat (cbv; simp only [c5])); first | done | cbv) (lb rfl) ?_
    refine nT ?_
    rcases tf (A.zeq r8 0) with c10 | c10
    · replace h := cT c10 h
      refine AWp.cdT rfl (by first | rfl | simp only [c5, c10, Bool.not_true, Bool.not_false, cond_true, cond_false]) ?_
      refine AWp.seq ?_
      refine AWp.rg hT hA {} (by (repeat (cbv; simp only [c5, c10])); first | done | cbv) (lb rfl) ?_
      refine nT ?_
      refine AWp.ret ?_
      refine rT ?_
      cases soI h
      exact ⟨rfl, rfl, rfl, lb rfl, _, rfl⟩
    · replace h := cF c10 h
      refine AWp.cdF rfl (by first | rfl | simp only [c5, c10, Bool.not_true, Bool.not_false, cond_true, cond_false]) ?_
      refine AWp.skip ?_
      refine nT ?_
      refine AWp.seq ?_
      refine AWp.rg hT hA {} (by (repeat (cbv; simp only [c5, c10])); first | done | cbv) (lb rfl) ?_
      refine nT ?_
      refine AWp.ret ?_
      cases soI h
      exact ⟨rfl, rfl, rfl, lb rfl, _, rfl⟩
  · replace h := cF c5 h
    refine AWp.cdT rfl (by first | rfl | simp only [c5, Bool.not_true, Bool.not_false, cond_true, cond_false]) ?_
    refine AWp.seq ?_
    refine AWp.rg hT hA {} (by (repeat (cbv; simp only [c5])); first | done | cbv) (lb rfl) ?_
    refine nT ?_
    refine AWp.ret ?_
    refine rT ?_
    cases soI h
    exact ⟨rfl, rfl, rfl, lb rfl, _, rfl⟩

theorem H73aw {A : Ar} (hA : A = Ar.std) {x1 : Int} {x2 : Int} {x3 : Int} {x4 : Int} {x5 : Int} {x6 : Int} {x7 : Int} {x8 : Int} {x9 : Int} {x10 : Int} {x11 : Int} {x12 : Int} {v16 : Bool} (h : H73a A x1 x2 x3 x4 x5 x6 x7 x8 x9 x10 x11 x12 = some v16) : ACall Try.prog 73 [(.d (.agg [(.int .i64 x1), (.int .i64 x2), (.int .i64 x3), (.int .i64 x4), (.int .i64 x5), (.int .i64 x6)])), (.d (.agg [(.int .i64 x7), (.int .i64 x8), (.int .i64 x9), (.int .i64 x10), (.int .i64 x11), (.int .i64 x12)]))] [] (.d (.bool v16)) [] := by
  unfold H73a at h
  refine ACall.enter hT (fn := Try.f73) Try.func73 rfl (by decide) (by simp [Try.f73]) rfl rfl rfl rfl (lb rfl) ?_
  refine AWp.seq ?_
  refine AWp.rg hT hA {} (by cbv) (lb rfl) ?_
  refine nT ?_
  refine AWp.seq ?_
  obtain ⟨v14, hvK15, h⟩ := bindS h
  refine AWp.cutN [4] [] 0 (lb rfl) (fun τ => τ = { env := [(4, (.d (.bool v14)))], heap := [], n := 17 }) ?_ ?_
  · skip
    rcases tf (A.zeq x1 x7) with c13 | c13
    · replace hvK15 := cT c13 hvK15
      refine AWp.rg hT hA { tk := [16] } (by (repeat (cbv; simp only [c13])); first | done | cbv) (lb rfl) ?_
      cases soI hvK15
      exact oNi ⟨rfl, (by first | cbv | ((repeat (cbv; simp only [c13])); first | done | cbv))⟩
    · replace hvK15 := cF c13 hvK15
      refine AWp.rg hT hA { tk := [16] } (by (repeat (cbv; simp only [c13])); first | done | cbv) (lb rfl) ?_
      cases soI hvK15
      exact oNi ⟨rfl, (by first | cbv | ((repeat (cbv; simp only [c13])); first | done | cbv))⟩
  · rintro _ rfl
    refine nT ?_
    refine AWp.ret ?_
    cases soI h
    exact ⟨rfl, rfl, rfl, lb rfl, _, rfl⟩

theorem H80w {A : Ar} (hA : A = Ar.std) (h : H80 A = some ()) : ACall Try.prog 80 [] [] (.d (.bool true)) [] := by
  unfold H80 at h
  refine ACall.enter hT (fn := Try.f80) Try.func80 rfl (by decide) (by simp [Try.f80]) rfl rfl rfl rfl (lb rfl) ?_
  refine AWp.seq ?_
  refine AWp.rg hT hA {} (by cbv) (lb rfl) ?_
  refine nT ?_
  refine AWp.seq ?_
  refine AWp.rg hT hA {} (by cbv) (lb rfl) ?_
  refine nT ?_
  refine AWp.ret ?_
  cases soI h
  exact ⟨rfl, rfl, rfl, lb rfl, _, rfl⟩

theorem H118w {A : Ar} (hA : A = Ar.std) {x1 : Int} {x2 : Int} {x3 : Int} {x4 : Int} {x5 : Int} {x6 : Int} {x7 : Int} {x8 : Int} {x9 : Int} {x10 : Int} {x11 : Int} {x12 : Int} {v17 : Bool} (h : H118 A x1 x2 x3 x4 x5 x6 x7 x8 x9 x10 x11 x12 = some v17) : ACall Try.prog 118 [(.d (.agg [(.int .i64 x1), (.int .i64 x2), (.int .i64 x3), (.int .i64 x4), (.int .i64 x5), (.int .i64 x6)])), (.ptr 0 0)] [(.cells [(.d (.int .i64 x7)), (.d (.int .i64 x8)), (.d (.int .i64 x9)), (.d (.int .i64 x10)), (.d (.int .i64 x11)), (.d (.int .i64 x12))])] (.d (.bool v17)) [(.cells [(.d (.int .i64 x7)), (.d (.int .i64 x8)), (.d (.int .i64 x9)), (.d (.int .i64 x10)), (.d (.int .i64 x11)), (.d (.int .i64 x12))])] := by
  unfold H118 at h
  refine ACall.enter hT (fn := Try.f118) Try.func118 rfl (by decide) (by simp [Try.f118]) rfl rfl rfl rfl (lb rfl) ?_
  refine AWp.seq ?_
  refine AWp.rg hT hA {} (by cbv) (lb rfl) ?_
  refine nT ?_
  refine AWp.seq ?_
  obtain ⟨v15, hvK16, h⟩ := bindS h
  refine AWp.cutN [3] [] 1 (lb rfl) (fun τ => τ = { env := [(3, (.d (.bool v15)))], heap := [(.cells [(.d (.int .i64 x7)), (.d (.int .i64 x8)), (.d (.int .i64 x9)), (.d (.int .i64 x10)), (.d (.int .i64 x11)), (.d (.int .i64 x12))])], n := 21 }) ?_ ?_
  · skip
    rcases tf (A.zle x5 x11) with c13 | c13
    · replace hvK16 := cT c13 hvK16
      rcases tf (A.zeq x6 0) with c14 | c14
      · replace hvK16 := cT c14 hvK16
        refine AWp.rg hT hA { tk := [20] } (by (repeat (cbv; simp only [c13, c14])); first | done | cbv) (lb rfl) ?_
        cases soI hvK16
        exact oNi ⟨rfl, (by first | cbv | ((repeat (cbv; simp only [c13, c14])); first | done | cbv))⟩
      · replace hvK16 := cF c14 hvK16
        refine AWp.rg hT hA { tk := [20] } (by (repeat (cbv; simp only [c13, c14])); first | done | cbv) (lb rfl) ?_
        cases soI hvK16
        exact oNi ⟨rfl, (by first | cbv | ((repeat (cbv; simp only [c13, c14])); first | done | cbv))⟩
    · replace hvK16 := cF c13 hvK16
      refine AWp.rg hT hA { tk := [20] } (by (repeat (cbv; simp only [c13])); first | done | cbv) (lb rfl) ?_
      cases soI hvK16
      exact oNi ⟨rfl, (by first | cbv | ((repeat (cbv; simp only [c13])); first | done | cbv))⟩
  · rintro _ rfl
    refine nT ?_
    refine AWp.ret ?_
    cases soI h
    exact ⟨rfl, rfl, rfl, lb rfl, _, rfl⟩

theorem H88w {A : Ar} (hA : A = Ar.std) {x1 : List D} {x2 : Int} {x3 : Int} {x4 : Int} {x5 : Int} {x6 : Int} {x7 : Int} {v50 : List D} (h : H88 A x1 x2 x3 x4 x5 x6 x7 = some v50) : ACall Try.prog 88 [(.d (.list 6 x1)), (.func 118 [] [(.ptr 0 0)])] [(.cells [(.d (.int .i64 x2)), (.d (.int .i64 x3)), (.d (.int .i64 x4)), (.d (.int .i64 x5)), (.d (.int .i64 x6)), (.d (.int .i64 x7))])] (.own 6 v50) [(.cells [(.d (.int .i64 x2)), (.d (.int .i64 x3)), (.d (.int .i64 x4)), (.d (.int .i64 x5)), (.d (.int .i64 x6)), (.d (.int .i64 x7))])] := by
  unfold H88 at h
  refine ACall.enter hT (fn := Try.f88) Try.func88 rfl (by decide) (by simp [Try.f88]) rfl rfl rfl rfl (lb rfl) ?_
  refine AWp.seq ?_
  refine AWp.rg hT hA {} (by cbv) (lb rfl) ?_
  refine nT ?_
  refine AWp.seq ?_
  refine AWp.rg hT hA {} (by cbv) (lb rfl) ?_
  refine nT ?_
  refine AWp.seq ?_
  refine AWp.seq ?_
  refine AWp.rg hT hA {} (by cbv) (lb rfl) ?_
  refine nT ?_
  refine AWp.block ?_
  obtain ⟨xK49, hxK49, K49, hK49, hkK49⟩ := bindK h
  refine AWp.cutX 0 [5] [] 1 (lb rfl) (fun τ => ∃ v48, K49 v48 = some v50 ∧ τ = { env := [(5, (.own 6 v48))], heap := [(.cells [(.d (.int .i64 x2)), (.d (.int .i64 x3)), (.d (.int .i64 x4)), (.d (.int .i64 x5)), (.d (.int .i64 x6)), (.d (.int .i64 x7))])], n := 23 }) ?_ ?_
  · skip
    refine AWp.iter hxK49 [1, 5, 8, 9, 10] [] 1 (lb rfl) (fun (v27, v28) => { env := [(1, (.func 118 [] [(.ptr 0 0)])), (5, (.own 6 v27)), (8, (.d (.list 6 x1))), (9, (.d (.int .i64 (A.len x1)))), (10, (.d (.int .i64 v28)))], heap := [(.cells [(.d (.int .i64 x2)), (.d (.int .i64 x3)), (.d (.int .i64 x4)), (.d (.int .i64 x5)), (.d (.int .i64 x6)), (.d (.int .i64 x7))])], n := 23 }) ⟨rfl, (by cbv)⟩ ?_
    rintro ⟨v27, v28⟩ eK49 hsK49
    dsimp only [H88L0] at hsK49
    refine AWp.seq ?_
    refine AWp.rg hT hA {} (by cbv) (lb rfl) ?_
    refine nT ?_
    refine AWp.seq ?_
    rcases tf (A.zlt v28 (A.len x1)) with c29 | c29
    · replace hsK49 := cT c29 hsK49
      refine AWp.cdT rfl (by first | rfl | simp only [c29, Bool.not_true, Bool.not_false, cond_true, cond_false]) ?_
      refine AWp.skip ?_
      refine nT ?_
      refine AWp.seq ?_
      refine AWp.block ?_
      refine AWp.seq ?_
      obtain ⟨⟨a30, a31, a32, a33, a34, a35⟩, e36, hsK49⟩ := bindS hsK49
      obtain ⟨f37, f38⟩ := gtI e36
      refine AWp.rg hT hA { tk := [13] } (by (repeat (cbv; simp only [c29, f37, f38])); first | done | cbv) (lb rfl) ?_
      refine nT ?_
      refine AWp.seq ?_
      refine AWp.region ?_
      obtain ⟨r40, e39, hsK49⟩ := bindS hsK49
      refine AOps.cc hT hA {} (by (repeat (cbv; simp only [c29])); first | done | cbv) (lb rfl) (H118w hA e39) rfl (.inl rfl) rfl rfl rfl (lb rfl) rfl rfl ?_
      refine AOps.cd hT hA {} (by (repeat (cbv; simp only [c29])); first | done | cbv) (lb rfl) ?_
      refine nT ?_
      obtain ⟨v46, hvK47, hsK49⟩ := bindS hsK49
      refine AWp.cutN [1, 5, 8, 9, 10] [] 1 (lb rfl) (fun τ => τ = { env := [(1, (.func 118 [] [(.ptr 0 0)])), (5, (.own 6 v46)), (8, (.d (.list 6 x1))), (9, (.d (.int .i64 (A.len x1)))), (10, (.d (.int .i64 v28)))], heap := [(.cells [(.d (.int .i64 x2)), (.d (.int .i64 x3)), (.d (.int .i64 x4)), (.d (.int .i64 x5)), (.d (.int .i64 x6)), (.d (.int .i64 x7))])], n := 23 }) ?_ ?_
      · skip
        rcases tf r40 with c41 | c41
        · replace hvK47 := cT c41 hvK47
          refine AWp.cdT rfl (by first | rfl | simp only [c29, c41, Bool.not_true, Bool.not_false, cond_true, cond_false]) ?_
          obtain ⟨l42, e43, hvK47⟩ := bindS hvK47
          obtain ⟨f44, f45⟩ := apI e43
          refine AWp.rg hT hA { tk := [5, 20] } (by (repeat (cbv; simp only [c29, c41, f44, f45])); first | done | cbv) (lb rfl) ?_
          cases soI hvK47
          exact oNi ⟨rfl, (by first | cbv | ((repeat (cbv; simp only [c29, c41])); first | done | cbv))⟩
        · replace hvK47 := cF c41 hvK47
          refine AWp.cdF rfl (by first | rfl | simp only [c29, c41, Bool.not_true, Bool.not_false, cond_true, cond_false]) ?_
          refine AWp.skip ?_
          cases soI hvK47
          exact oNi ⟨rfl, (by first | cbv | ((repeat (cbv; simp only [c29, c41])); first | done | cbv))⟩
      · rintro _ rfl
        refine nB ?_
        refine nT ?_
        refine AWp.rg hT hA {} (by cbv) (lb rfl) ?_
        exact nT ⟨_, (soI hsK49).symm, rfl, (by cbv)⟩
    · replace hsK49 := cF c29 hsK49
      refine AWp.cdF rfl (by first | rfl | simp only [c29, Bool.not_true, Bool.not_false, cond_true, cond_false]) ?_
      refine AWp.exit ?_
      refine xT ?_
      refine xT ?_
      refine exL hsK49 fun hx => ?_
      subst hx
      exact oxI ⟨rfl, _, hkK49, (by first | cbv | ((repeat (cbv; simp only [c29])); first | done | cbv))⟩
  · rintro _ ⟨v48, hkK49, rfl⟩
    have h := (hK49 _ hkK49)
    refine xB ?_
    refine nT ?_
    refine AWp.seq ?_
    refine AWp.rg hT hA { tk := [5, 22] } (by cbv) (lb rfl) ?_
    refine nT ?_
    refine AWp.ret ?_
    cases soI h
    exact ⟨rfl, rfl, rfl, lb rfl, _, rfl⟩

theorem H82w {A : Ar} (hA : A = Ar.std) {x1 : List D} {v30 : Int} (h : H82 A x1 = some v30) : ACall Try.prog 82 [(.d (.list 6 x1))] [] (.d (.int .i64 v30)) [] := by
  unfold H82 at h
  refine ACall.enter hT (fn := Try.f82) Try.func82 rfl (by decide) (by simp [Try.f82]) rfl rfl rfl rfl (lb rfl) ?_
  refine AWp.seq ?_
  refine AWp.rg hT hA {} (by cbv) (lb rfl) ?_
  refine nT ?_
  refine AWp.seq ?_
  refine AWp.rg hT hA {} (by cbv) (lb rfl) ?_
  refine nT ?_
  refine AWp.seq ?_
  refine AWp.seq ?_
  refine AWp.rg hT hA {} (by cbv) (lb rfl) ?_
  refine nT ?_
  refine AWp.block ?_
  obtain ⟨xK29, hxK29, K29, hK29, hkK29⟩ := bindK h
  refine AWp.cutX 0 [3] [] 0 (lb rfl) (fun τ => ∃ v28, K29 v28 = some v30 ∧ τ = { env := [(3, (.d (.int .i64 v28)))], heap := [], n := 20 }) ?_ ?_
  · skip
    refine AWp.iter hxK29 [0, 3, 6, 7, 8] [] 0 (lb rfl) (fun (v14, v15) => { env := [(0, (.d (.list 6 x1))), (3, (.d (.int .i64 v14))), (6, (.d (.list 6 x1))), (7, (.d (.int .i64 (A.len x1)))), (8, (.d (.int .i64 v15)))], heap := [], n := 20 }) ⟨rfl, (by cbv)⟩ ?_
    rintro ⟨v14, v15⟩ eK29 hsK29
    dsimp only [H82L0] at hsK29
    refine AWp.seq ?_
    refine AWp.rg hT hA {} (by cbv) (lb rfl) ?_
    refine nT ?_
    refine AWp.seq ?_
    rcases tf (A.zlt v15 (A.len x1)) with c16 | c16
    · replace hsK29 := cT c16 hsK29
      refine AWp.cdT rfl (by first | rfl | simp only [c16, Bool.not_true, Bool.not_false, cond_true, cond_false]) ?_
      refine AWp.skip ?_
      refine nT ?_
      refine AWp.seq ?_
      refine AWp.block ?_
      refine AWp.seq ?_
      obtain ⟨⟨a17, a18, a19, a20, a21, a22⟩, e23, hsK29⟩ := bindS hsK29
      obtain ⟨f24, f25⟩ := gtI e23
      refine AWp.rg hT hA { tk := [11], esc := [5] } (by (repeat (cbv; simp only [c16, f24, f25])); first | done | cbv) (lb rfl) ?_
      refine nT ?_
      refine AWp.region ?_
      obtain ⟨r27, e26, hsK29⟩ := bindS hsK29
      refine AOps.cc hT hA { tk := [17] } (by (repeat (cbv; simp only [c16])); first | done | cbv) (lb rfl) (H88w hA e26) rfl (.inl rfl) rfl rfl rfl (lb rfl) rfl rfl ?_
      refine AOps.cd hT hA { tk := [17] } (by (repeat (cbv; simp only [c16])); first | done | cbv) (lb rfl) ?_
      refine nB ?_
      refine nT ?_
      refine AWp.rg hT hA {} (by (repeat (cbv; simp only [c16])); first | done | cbv) (lb rfl) ?_
      exact nT ⟨_, (soI hsK29).symm, rfl, (by first | cbv | ((repeat (cbv; simp only [c16])); first | done | cbv))⟩
    · replace hsK29 := cF c16 hsK29
      refine AWp.cdF rfl (by first | rfl | simp only [c16, Bool.not_true, Bool.not_false, cond_true, cond_false]) ?_
      refine AWp.exit ?_
      refine xT ?_
      refine xT ?_
      refine exL hsK29 fun hx => ?_
      subst hx
      exact oxI ⟨rfl, _, hkK29, (by first | cbv | ((repeat (cbv; simp only [c16])); first | done | cbv))⟩
  · rintro _ ⟨v28, hkK29, rfl⟩
    have h := (hK29 _ hkK29)
    refine xB ?_
    refine nT ?_
    refine AWp.seq ?_
    refine AWp.rg hT hA { tk := [3, 19] } (by cbv) (lb rfl) ?_
    refine nT ?_
    refine AWp.ret ?_
    cases soI h
    exact ⟨rfl, rfl, rfl, lb rfl, _, rfl⟩

theorem H81w {A : Ar} (hA : A = Ar.std) {x1 : List D} {v4 : Int} (h : H81 A x1 = some v4) : ACall Try.prog 81 [(.ptr 0 0)] [(.cells [(.d (.list 6 x1))])] (.d (.int .i64 v4)) [(.cells [(.d (.list 6 x1))])] := by
  unfold H81 at h
  refine ACall.enter hT (fn := Try.f81) Try.func81 rfl (by decide) (by simp [Try.f81]) rfl rfl rfl rfl (lb rfl) ?_
  refine AWp.seq ?_
  refine AWp.rg hT hA {} (by cbv) (lb rfl) ?_
  refine nT ?_
  refine AWp.seq ?_
  refine AWp.region ?_
  obtain ⟨r3, e2, h⟩ := bindS h
  refine AOps.cc hT hA { tk := [3] } (by cbv) (lb rfl) (H82w hA e2) rfl (.inr rfl) rfl rfl rfl (lb rfl) rfl rfl ?_
  refine AOps.cd hT hA { tk := [3] } (by cbv) (lb rfl) ?_
  refine nT ?_
  refine AWp.ret ?_
  cases soI h
  exact ⟨rfl, rfl, rfl, lb rfl, _, rfl⟩

theorem H79w {A : Ar} (hA : A = Ar.std) {x1 : List D} {x2 : List D} {v9 : Int} {v10 : Int} (h : H79 A x1 x2 = some (v9, v10)) : ACall Try.prog 79 [(.d (.list 6 x1)), (.func 80 [] []), (.func 81 [] [(.ptr 0 0)])] [(.cells [(.d (.list 6 x2))])] (.tuple [(.d (.int .i64 v9)), (.d (.int .i64 v10))]) [(.cells [(.d (.list 6 x2))])] := by
  unfold H79 at h
  refine ACall.enter hT (fn := Try.f79) Try.func79 rfl (by decide) (by simp [Try.f79]) rfl rfl rfl rfl (lb rfl) ?_
  refine AWp.seq ?_
  refine AWp.rg hT hA {} (by cbv) (lb rfl) ?_
  refine nT ?_
  refine AWp.seq ?_
  refine AWp.rg hT hA {} (by cbv) (lb rfl) ?_
  refine nT ?_
  refine AWp.seq ?_
  refine AWp.block ?_
  refine AWp.seq ?_
  refine AWp.region ?_
  obtain ⟨r4, e3, h⟩ := bindS h
  refine AOps.cc hT hA {} (by cbv) (lb rfl) (H24w hA e3) rfl (.inr rfl) rfl rfl rfl (lb rfl) rfl rfl ?_
  refine AOps.cd hT hA {} (by cbv) (lb rfl) ?_
  refine nT ?_
  rcases tf r4 with c5 | c5
  · replace h := cT c5 h
    refine AWp.cdF rfl (by first | rfl | simp only [c5, Bool.not_true, Bool.not_false, cond_true, cond_false]) ?_
    refine AWp.seq ?_
    refine AWp.region ?_
    obtain ⟨_, e6, h⟩ := bindS h
    refine AOps.cc hT hA {} (by (repeat (cbv; simp only [c5])); first | done | cbv) (lb rfl) (H80w hA e6) rfl (.inr rfl) rfl rfl rfl (lb rfl) rfl rfl ?_
    refine AOps.cd hT hA {} (by (repeat (cbv; simp only [c5])); first | done | cbv) (lb rfl) ?_
    refine nT ?_
    refine AWp.cdF rfl (by first | rfl | simp only [c5, Bool.not_true, Bool.not_false, cond_true, cond_false]) ?_
    refine AWp.skip ?_
    refine nB ?_
    refine nT ?_
    refine AWp.seq ?_
    refine AWp.region ?_
    obtain ⟨r8, e7, h⟩ := bindS h
    refine AOps.cc hT hA {} (by (repeat (cbv; simp only [c5])); first | done | cbv) (lb rfl) (H81w hA e7) rfl (.inl rfl) rfl rfl rfl (lb rfl) rfl rfl ?_
    refine AOps.cd hT hA {} (by (repeat (cbv; simp only [c5])); first | done | cbv) (lb rfl) ?_
    refine nT ?_
    refine AWp.ret ?_
    cases soI h
    exact ⟨rfl, rfl, rfl, lb rfl, _, rfl⟩
  · replace h := cF c5 h
    refine AWp.cdT rfl (by first | rfl | simp only [c5, Bool.not_true, Bool.not_false, cond_true, cond_false]) ?_
    refine AWp.seq ?_
    refine AWp.rg hT hA {} (by (repeat (cbv; simp only [c5])); first | done | cbv) (lb rfl) ?_
    refine nT ?_
    refine AWp.ret ?_
    refine rB ?_
    refine rT ?_
    cases soI h
    exact ⟨rfl, rfl, rfl, lb rfl, _, rfl⟩

theorem H35w {A : Ar} (hA : A = Ar.std) {x1 : List D} {v5 : Int} {v6 : Int} (h : H35 A x1 = some (v5, v6)) : ACall Try.prog 35 [(.d (.list 6 x1))] [] (.tuple [(.d (.int .i64 v5)), (.d (.int .i64 v6))]) [] := by
  unfold H35 at h
  refine ACall.enter hT (fn := Try.f35) Try.func35 rfl (by decide) (by simp [Try.f35]) rfl rfl rfl rfl (lb rfl) ?_
  refine AWp.seq ?_
  refine AWp.rg hT hA { esc := [1] } (by cbv) (lb rfl) ?_
  refine nT ?_
  refine AWp.seq ?_
  refine AWp.region ?_
  obtain ⟨⟨r3, r4⟩, e2, h⟩ := bindS h
  refine AOps.cc hT hA {} (by cbv) (lb rfl) (H79w hA e2) rfl (.inl rfl) rfl rfl rfl (lb rfl) rfl rfl ?_
  refine AOps.cd hT hA {} (by cbv) (lb rfl) ?_
  refine nT ?_
  refine AWp.ret ?_
  cases soI h
  exact ⟨rfl, rfl, rfl, lb rfl, _, rfl⟩

theorem H83w {A : Ar} (hA : A = Ar.std) {x1 : List D} {x2 : Int} {v41 : Int} (h : H83 A x1 x2 = some v41) : ACall Try.prog 83 [(.d (.list 6 x1)), (.d (.int .i64 x2))] [] (.d (.int .i64 v41)) [] := by
  unfold H83 at h
  refine ACall.enter hT (fn := Try.f83) Try.func83 rfl (by decide) (by simp [Try.f83]) rfl rfl rfl rfl (lb rfl) ?_
  refine AWp.seq ?_
  refine AWp.rg hT hA {} (by cbv) (lb rfl) ?_
  refine nT ?_
  refine AWp.seq ?_
  refine AWp.rg hT hA {} (by cbv) (lb rfl) ?_
  refine nT ?_
  refine AWp.seq ?_
  refine AWp.seq ?_
  refine AWp.rg hT hA {} (by cbv) (lb rfl) ?_
  refine nT ?_
  refine AWp.block ?_
  obtain ⟨xK40, hxK40, K40, hK40, hkK40⟩ := bindK h
  refine AWp.cutX 0 [5] [] 0 (lb rfl) (fun τ => ∃ v39, K40 v39 = some v41 ∧ τ = { env := [(5, (.d (.int .i64 v39)))], heap := [], n := 40 }) ?_ ?_
  · skip
    refine AWp.iter hxK40 [0, 1, 5, 6] [] 0 (lb rfl) (fun (v20, v21) => { env := [(0, (.d (.list 6 x1))), (1, (.d (.int .i64 x2))), (5, (.d (.int .i64 v20))), (6, (.d (.int .i64 v21)))], heap := [], n := 40 }) ⟨rfl, (by cbv)⟩ ?_
    rintro ⟨v20, v21⟩ eK40 hsK40
    dsimp only [H83L0] at hsK40
    refine AWp.seq ?_
    refine AWp.seq ?_
    refine AWp.rg hT hA {} (by cbv) (lb rfl) ?_
    refine nT ?_
    rcases tf (A.zlt v21 (A.len x1)) with c22 | c22
    · replace hsK40 := cT c22 hsK40
      refine AWp.cdT rfl (by first | rfl | simp only [c22, Bool.not_true, Bool.not_false, cond_true, cond_false]) ?_
      refine AWp.skip ?_
      refine nT ?_
      refine AWp.seq ?_
      refine AWp.block ?_
      refine AWp.seq ?_
      obtain ⟨v34, hvK35, hsK40⟩ := bindS hsK40
      refine AWp.cutN [0, 1, 5, 6, 36] [] 0 (lb rfl) (fun τ => τ = { env := [(0, (.d (.list 6 x1))), (1, (.d (.int .i64 x2))), (5, (.d (.int .i64 v20))), (6, (.d (.int .i64 v21))), (36, (.d (.bool v34)))], heap := [], n := 40 }) ?_ ?_
      · skip
        obtain ⟨⟨a23, a24, a25, a26, a27, a28⟩, e29, hvK35⟩ := bindS hvK35
        obtain ⟨f30, f31⟩ := gtI e29
        rcases tf (A.zle a27 x2) with c32 | c32
        · replace hvK35 := cT c32 hvK35
          rcases tf (A.zeq a28 0) with c33 | c33
          · replace hvK35 := cT c33 hvK35
            refine AWp.rg hT hA {} (by (repeat (cbv; simp only [c22, c32, c33, f30, f31])); first | done | cbv) (lb rfl) ?_
            cases soI hvK35
            exact oNi ⟨rfl, (by first | cbv | ((repeat (cbv; simp only [c22, c32, c33])); first | done | cbv))⟩
          · replace hvK35 := cF c33 hvK35
            refine AWp.rg hT hA {} (by (repeat (cbv; simp only [c22, c32, c33, f30, f31])); first | done | cbv) (lb rfl) ?_
            cases soI hvK35
            exact oNi ⟨rfl, (by first | cbv | ((repeat (cbv; simp only [c22, c32, c33])); first | done | cbv))⟩
        · replace hvK35 := cF c32 hvK35
          refine AWp.rg hT hA {} (by (repeat (cbv; simp only [c22, c32, f30, f31])); first | done | cbv) (lb rfl) ?_
          cases soI hvK35
          exact oNi ⟨rfl, (by first | cbv | ((repeat (cbv; simp only [c22, c32])); first | done | cbv))⟩
      · rintro _ rfl
        refine nT ?_
        obtain ⟨v37, hvK38, hsK40⟩ := bindS hsK40
        refine AWp.cutN [0, 1, 5, 6] [] 0 (lb rfl) (fun τ => τ = { env := [(0, (.d (.list 6 x1))), (1, (.d (.int .i64 x2))), (5, (.d (.int .i64 v37))), (6, (.d (.int .i64 v21)))], heap := [], n := 40 }) ?_ ?_
        · skip
          rcases tf v34 with c36 | c36
          · replace hvK38 := cT c36 hvK38
            refine AWp.cdT rfl (by first | rfl | simp only [c36, Bool.not_true, Bool.not_false, cond_true, cond_false]) ?_
            refine AWp.rg hT hA { tk := [38] } (by (repeat (cbv; simp only [c36])); first | done | cbv) (lb rfl) ?_
            cases soI hvK38
            exact oNi ⟨rfl, (by first | cbv | ((repeat (cbv; simp only [c36])); first | done | cbv))⟩
          · replace hvK38 := cF c36 hvK38
            refine AWp.cdF rfl (by first | rfl | simp only [c36, Bool.not_true, Bool.not_false, cond_true, cond_false]) ?_
            refine AWp.skip ?_
            cases soI hvK38
            exact oNi ⟨rfl, (by first | cbv | ((repeat (cbv; simp only [c36])); first | done | cbv))⟩
        · rintro _ rfl
          refine nB ?_
          refine nT ?_
          refine AWp.rg hT hA {} (by cbv) (lb rfl) ?_
          exact nT ⟨_, (soI hsK40).symm, rfl, (by cbv)⟩
    · replace hsK40 := cF c22 hsK40
      refine AWp.cdF rfl (by first | rfl | simp only [c22, Bool.not_true, Bool.not_false, cond_true, cond_false]) ?_
      refine AWp.exit ?_
      refine xT ?_
      refine xT ?_
      refine exL hsK40 fun hx => ?_
      subst hx
      exact oxI ⟨rfl, _, hkK40, (by first | cbv | ((repeat (cbv; simp only [c22])); first | done | cbv))⟩
  · rintro _ ⟨v39, hkK40, rfl⟩
    have h := (hK40 _ hkK40)
    refine xB ?_
    refine nT ?_
    refine AWp.seq ?_
    refine AWp.rg hT hA { tk := [5, 39] } (by cbv) (lb rfl) ?_
    refine nT ?_
    refine AWp.ret ?_
    cases soI h
    exact ⟨rfl, rfl, rfl, lb rfl, _, rfl⟩

theorem H36w {A : Ar} (hA : A = Ar.std) {x1 : List D} {v15 : Int} {v16 : Int} (h : H36 A x1 = some (v15, v16)) : ACall Try.prog 36 [(.d (.list 6 x1))] [] (.tuple [(.d (.int .i64 v15)), (.d (.int .i64 v16))]) [] := by
  unfold H36 at h
  refine ACall.enter hT (fn := Try.f36) Try.func36 rfl (by decide) (by simp [Try.f36]) rfl rfl rfl rfl (lb rfl) ?_
  refine AWp.seq ?_
  refine AWp.rg hT hA {} (by cbv) (lb rfl) ?_
  refine nT ?_
  refine AWp.seq ?_
  refine AWp.seq ?_
  refine AWp.region ?_
  obtain ⟨r3, e2, h⟩ := bindS h
  refine AOps.cc hT hA {} (by cbv) (lb rfl) (H25w hA e2) rfl (.inl rfl) rfl rfl rfl (lb rfl) rfl rfl ?_
  refine AOps.cd hT hA {} (by cbv) (lb rfl) ?_
  refine nT ?_
  rcases tf r3 with c4 | c4
  · replace h := cT c4 h
    refine AWp.cdF rfl (by first | rfl | simp only [c4, Bool.not_true, Bool.not_false, cond_true, cond_false]) ?_
    refine AWp.skip ?_
    refine nT ?_
    refine AWp.seq ?_
    refine AWp.rg hT hA {} (by (repeat (cbv; simp only [c4])); first | done | cbv) (lb rfl) ?_
    refine nT ?_
    refine AWp.seq ?_
    refine AWp.seq ?_
    refine AWp.rg hT hA {} (by (repeat (cbv; simp only [c4])); first | done | cbv) (lb rfl) ?_
    refine nT ?_
    refine AWp.block ?_
    obtain ⟨xK14, hxK14, K14, hK14, hkK14⟩ := bindK h
    refine AWp.cutX 0 [4] [] 0 (lb rfl) (fun τ => ∃ v13, K14 v13 = some (v15, v16) ∧ τ = { env := [(4, (.d (.int .i64 v13)))], heap := [], n := 19 }) ?_ ?_
    · skip
      refine AWp.iter hxK14 [0, 4, 5] [] 0 (lb rfl) (fun (v8, v9) => { env := [(0, (.d (.list 6 x1))), (4, (.d (.int .i64 v8))), (5, (.d (.int .i64 v9)))], heap := [], n := 19 }) ⟨rfl, (by first | cbv | ((repeat (cbv; simp only [c4])); first | done | cbv))⟩ ?_
      rintro ⟨v8, v9⟩ eK14 hsK14
      dsimp only [H36L0] at hsK14
      refine AWp.seq ?_
      refine AWp.seq ?_
      refine AWp.rg hT hA {} (by cbv) (lb rfl) ?_
      refine nT ?_
      rcases tf (A.zle v9 100) with c10 | c10
      · replace hsK14 := cT c10 hsK14
        refine AWp.cdT rfl (by first | rfl | simp only [c10, Bool.not_true, Bool.not_false, cond_true, cond_false]) ?_
        refine AWp.skip ?_
        refine nT ?_
        refine AWp.seq ?_
        refine AWp.block ?_
        refine AWp.region ?_
        obtain ⟨r12, e11, hsK14⟩ := bindS hsK14
        refine AOps.cc hT hA {} (by (repeat (cbv; simp only [c10])); first | done | cbv) (lb rfl) (H83w hA e11) rfl (.inl rfl) rfl rfl rfl (lb rfl) rfl rfl ?_
        refine AOps.cd hT hA {} (by (repeat (cbv; simp only [c10])); first | done | cbv) (lb rfl) ?_
        refine nB ?_
        refine nT ?_
        refine AWp.rg hT hA {} (by (repeat (cbv; simp only [c10])); first | done | cbv) (lb rfl) ?_
        exact nT ⟨_, (soI hsK14).symm, rfl, (by first | cbv | ((repeat (cbv; simp only [c10])); first | done | cbv))⟩
      · replace hsK14 := cF c10 hsK14
        refine AWp.cdF rfl (by first | rfl | simp only [c10, Bool.not_true, Bool.not_false, cond_true, cond_false]) ?_
        refine AWp.exit ?_
        refine xT ?_
        refine xT ?_
        refine exL hsK14 fun hx => ?_
        subst hx
        exact oxI ⟨rfl, _, hkK14, (by first | cbv | ((repeat (cbv; simp only [c10])); first | done | cbv))⟩
    · rintro _ ⟨v13, hkK14, rfl⟩
      have h := (hK14 _ hkK14)
      refine xB ?_
      refine nT ?_
      refine AWp.seq ?_
      refine AWp.rg hT hA {} (by cbv) (lb rfl) ?_
      refine nT ?_
      refine AWp.ret ?_
      cases soI h
      exact ⟨rfl, rfl, rfl, lb rfl, _, rfl⟩
  · replace h := cF c4 h
    refine AWp.cdT rfl (by first | rfl | simp only [c4, Bool.not_true, Bool.not_false, cond_true, cond_false]) ?_
    refine AWp.seq ?_
    refine AWp.rg hT hA {} (by (repeat (cbv; simp only [c4])); first | done | cbv) (lb rfl) ?_
    refine nT ?_
    refine AWp.ret ?_
    refine rT ?_
    cases soI h
    exact ⟨rfl, rfl, rfl, lb rfl, _, rfl⟩

theorem H84w {A : Ar} (hA : A = Ar.std) {x1 : List D} {v4 : Bool} (h : H84 A x1 = some v4) : ACall Try.prog 84 [(.ptr 0 0)] [(.cells [(.d (.list 6 x1))])] (.d (.bool v4)) [(.cells [(.d (.list 6 x1))])] := by
  unfold H84 at h
  refine ACall.enter hT (fn := Try.f84) Try.func84 rfl (by decide) (by simp [Try.f84]) rfl rfl rfl rfl (lb rfl) ?_
  refine AWp.seq ?_
  refine AWp.rg hT hA {} (by cbv) (lb rfl) ?_
  refine nT ?_
  refine AWp.seq ?_
  refine AWp.region ?_
  obtain ⟨r3, e2, h⟩ := bindS h
  refine AOps.cc hT hA { tk := [4] } (by cbv) (lb rfl) (H82w hA e2) rfl (.inr rfl) rfl rfl rfl (lb rfl) rfl rfl ?_
  refine AOps.cd hT hA { tk := [4] } (by cbv) (lb rfl) ?_
  refine nT ?_
  refine AWp.ret ?_
  cases soI h
  exact ⟨rfl, rfl, rfl, lb rfl, _, rfl⟩

theorem H62aw {A : Ar} (hA : A = Ar.std) {x1 : List D} {x2 : List D} {v9 : Bool} {v10 : Int} (h : H62a A x1 x2 = some (v9, v10)) : ACall Try.prog 62 [(.d (.list 6 x1)), (.func 80 [] []), (.func 84 [] [(.ptr 0 0)])] [(.cells [(.d (.list 6 x2))])] (.tuple [(.d (.bool v9)), (.d (.int .i64 v10))]) [(.cells [(.d (.list 6 x2))])] := by
  unfold H62a at h
  refine ACall.enter hT (fn := Try.f62) Try.func62 rfl (by decide) (by simp [Try.f62]) rfl rfl rfl rfl (lb rfl) ?_
  refine AWp.seq ?_
  refine AWp.rg hT hA {} (by cbv) (lb rfl) ?_
  refine nT ?_
  refine AWp.seq ?_
  refine AWp.rg hT hA {} (by cbv) (lb rfl) ?_
  refine nT ?_
  refine AWp.seq ?_
  refine AWp.block ?_
  refine AWp.seq ?_
  refine AWp.region ?_
  obtain ⟨r4, e3, h⟩ := bindS h
  refine AOps.cc hT hA {} (by cbv) (lb rfl) (H24w hA e3) rfl (.inr rfl) rfl rfl rfl (lb rfl) rfl rfl ?_
  refine AOps.cd hT hA {} (by cbv) (lb rfl) ?_
  refine nT ?_
  rcases tf r4 with c5 | c5
  · replace h := cT c5 h
    refine AWp.cdF rfl (by first | rfl | simp only [c5, Bool.not_true, Bool.not_false, cond_true, cond_false]) ?_
    refine AWp.seq ?_
    refine AWp.region ?_
    obtain ⟨_, e6, h⟩ := bindS h
    refine AOps.cc hT hA {} (by (repeat (cbv; simp only [c5])); first | done | cbv) (lb rfl) (H80w hA e6) rfl (.inr rfl) rfl rfl rfl (lb rfl) rfl rfl ?_
    refine AOps.cd hT hA {} (by (repeat (cbv; simp only [c5])); first | done | cbv) (lb rfl) ?_
    refine nT ?_
    refine AWp.cdF rfl (by first | rfl | simp only [c5, Bool.not_true, Bool.not_false, cond_true, cond_false]) ?_
    refine AWp.skip ?_
    refine nB ?_
    refine nT ?_
    refine AWp.seq ?_
    refine AWp.region ?_
    obtain ⟨r8, e7, h⟩ := bindS h
    refine AOps.cc hT hA {} (by (repeat (cbv; simp only [c5])); first | done | cbv) (lb rfl) (H84w hA e7) rfl (.inl rfl) rfl rfl rfl (lb rfl) rfl rfl ?_
    refine AOps.cd hT hA {} (by (repeat (cbv; simp only [c5])); first | done | cbv) (lb rfl) ?_
    refine nT ?_
    refine AWp.ret ?_
    cases soI h
    exact ⟨rfl, rfl, rfl, lb rfl, _, rfl⟩
  · replace h := cF c5 h
    refine AWp.cdT rfl (by first | rfl | simp only [c5, Bool.not_true, Bool.not_false, cond_true, cond_false]) ?_
    refine AWp.seq ?_
    refine AWp.rg hT hA {} (by (repeat (cbv; simp only [c5])); first | done | cbv) (lb rfl) ?_
    refine nT ?_
    refine AWp.ret ?_
    refine rB ?_
    refine rT ?_
    cases soI h
    exact ⟨rfl, rfl, rfl, lb rfl, _, rfl⟩

theorem H37w {A : Ar} (hA : A = Ar.std) {x1 : List D} {v5 : Bool} {v6 : Int} (h : H37 A x1 = some (v5, v6)) : ACall Try.prog 37 [(.d (.list 6 x1))] [] (.tuple [(.d (.bool v5)), (.d (.int .i64 v6))]) [] := by
  unfold H37 at h
  refine ACall.enter hT (fn := Try.f37) Try.func37 rfl (by decide) (by simp [Try.f37]) rfl rfl rfl rfl (lb rfl) ?_
  refine AWp.seq ?_
  refine AWp.rg hT hA { esc := [1] } (by cbv) (lb rfl) ?_
  refine nT ?_
  refine AWp.seq ?_
  refine AWp.region ?_
  obtain ⟨⟨r3, r4⟩, e2, h⟩ := bindS h
  refine AOps.cc hT hA {} (by cbv) (lb rfl) (H62aw hA e2) rfl (.inl rfl) rfl rfl rfl (lb rfl) rfl rfl ?_
  refine AOps.cd hT hA {} (by cbv) (lb rfl) ?_
  refine nT ?_
  refine AWp.ret ?_
  cases soI h
  exact ⟨rfl, rfl, rfl, lb rfl, _, rfl⟩

theorem H38w {A : Ar} (hA : A = Ar.std) {x1 : List D} {v8 : Bool} {v9 : Int} (h : H38 A x1 = some (v8, v9)) : ACall Try.prog 38 [(.d (.list 6 x1))] [] (.tuple [(.d (.bool v8)), (.d (.int .i64 v9))]) [] := by
  unfold H38 at h
  refine ACall.enter hT (fn := Try.f38) Try.func38 rfl (by decide) (by simp [Try.f38]) rfl rfl rfl rfl (lb rfl) ?_
  refine AWp.seq ?_
  refine AWp.rg hT hA {} (by cbv) (lb rfl) ?_
  refine nT ?_
  refine AWp.seq ?_
  refine AWp.region ?_
  obtain ⟨⟨r3, r4⟩, e2, h⟩ := bindS h
  refine AOps.cc hT hA {} (by cbv) (lb rfl) (H36w hA e2) rfl (.inl rfl) rfl rfl rfl (lb rfl) rfl rfl ?_
  refine AOps.cd hT hA {} (by cbv) (lb rfl) ?_
  refine nT ?_
  refine AWp.seq ?_
  obtain ⟨v6, hvK7, h⟩ := bindS h
  refine AWp.cutN [2, 3] [] 0 (lb rfl) (fun τ => τ = { env := [(2, (.d (.bool v6))), (3, (.d (.int .i64 r4)))], heap := [], n := 18 }) ?_ ?_
  · skip
    rcases tf (A.zeq r4 0) with c5 | c5
    · replace hvK7 := cT c5 hvK7
      refine AWp.rg hT hA {} (by (repeat (cbv; simp only [c5])); first | done | cbv) (lb rfl) ?_
      cases soI hvK7
      exact oNi ⟨rfl, (by first | cbv | ((repeat (cbv; simp only [c5])); first | done | cbv))⟩
    · replace hvK7 := cF c5 hvK7
      refine AWp.rg hT hA {} (by (repeat (cbv; simp only [c5])); first | done | cbv) (lb rfl) ?_
      cases soI hvK7
      exact oNi ⟨rfl, (by first | cbv | ((repeat (cbv; simp only [c5])); first | done | cbv))⟩
  · rintro _ rfl
    refine nT ?_
    refine AWp.ret ?_
    cases soI h
    exact ⟨rfl, rfl, rfl, lb rfl, _, rfl⟩

theorem H6w {A : Ar} (hA : A = Ar.std) {x1 : List D} {v27 : Bool} (h : H6 A x1 = some v27) : ACall Try.prog 6 [(.d (.list 6 x1))] [] (.d (.bool v27)) [] := by
  unfold H6 at h
  refine ACall.enter hT (fn := Try.f6) Try.func6 rfl (by decide) (by simp [Try.f6]) rfl rfl rfl rfl (lb rfl) ?_
  refine AWp.seq ?_
  refine AWp.rg hT hA {} (by cbv) (lb rfl) ?_
  refine nT ?_
  refine AWp.seq ?_
  refine AWp.seq ?_
  refine AWp.region ?_
  obtain ⟨r3, e2, h⟩ := bindS h
  refine AOps.cc hT hA {} (by cbv) (lb rfl) (H18w hA e2) rfl (.inl rfl) rfl rfl rfl (lb rfl) rfl rfl ?_
  refine AOps.cd hT hA {} (by cbv) (lb rfl) ?_
  refine nT ?_
  rcases tf r3 with c4 | c4
  · replace h := cT c4 h
    refine AWp.cdT rfl (by first | rfl | simp only [c4, Bool.not_true, Bool.not_false, cond_true, cond_false]) ?_
    refine AWp.seq ?_
    refine AWp.region ?_
    obtain ⟨r6, e5, h⟩ := bindS h
    refine AOps.cc hT hA { tk := [13] } (by (repeat (cbv; simp only [c4])); first | done | cbv) (lb rfl) (H19w hA e5) rfl (.inl rfl) rfl rfl rfl (lb rfl) rfl rfl ?_
    refine AOps.cd hT hA { tk := [13] } (by (repeat (cbv; simp only [c4])); first | done | cbv) (lb rfl) ?_
    refine nT ?_
    refine AWp.ret ?_
    refine rT ?_
    cases soI h
    exact ⟨rfl, rfl, rfl, lb rfl, _, rfl⟩
  · replace h := cF c4 h
    refine AWp.cdF rfl (by first | rfl | simp only [c4, Bool.not_true, Bool.not_false, cond_true, cond_false]) ?_
    refine AWp.skip ?_
    refine nT ?_
    refine AWp.seq ?_
    refine AWp.region ?_
    obtain ⟨⟨r8, r9⟩, e7, h⟩ := bindS h
    refine AOps.cc hT hA {} (by (repeat (cbv; simp only [c4])); first | done | cbv) (lb rfl) (H35w hA e7) rfl (.inl rfl) rfl rfl rfl (lb rfl) rfl rfl ?_
    refine AOps.cd hT hA {} (by (repeat (cbv; simp only [c4])); first | done | cbv) (lb rfl) ?_
    refine nT ?_
    refine AWp.seq ?_
    refine AWp.region ?_
    obtain ⟨⟨r11, r12⟩, e10, h⟩ := bindS h
    refine AOps.cc hT hA {} (by (repeat (cbv; simp only [c4])); first | done | cbv) (lb rfl) (H36w hA e10) rfl (.inl rfl) rfl rfl rfl (lb rfl) rfl rfl ?_
    refine AOps.cd hT hA {} (by (repeat (cbv; simp only [c4])); first | done | cbv) (lb rfl) ?_
    refine nT ?_
    refine AWp.seq ?_
    refine AWp.region ?_
    obtain ⟨⟨r14, r15⟩, e13, h⟩ := bindS h
    refine AOps.cc hT hA {} (by (repeat (cbv; simp only [c4])); first | done | cbv) (lb rfl) (H37w hA e13) rfl (.inl rfl) rfl rfl rfl (lb rfl) rfl rfl ?_
    refine AOps.cd hT hA {} (by (repeat (cbv; simp only [c4])); first | done | cbv) (lb rfl) ?_
    refine nT ?_
    refine AWp.seq ?_
    refine AWp.region ?_
    obtain ⟨⟨r17, r18⟩, e16, h⟩ := bindS h
    refine AOps.cc hT hA {} (by (repeat (cbv; simp only [c4])); first | done | cbv) (lb rfl) (H38w hA e16) rfl (.inl rfl) rfl rfl rfl (lb rfl) rfl rfl ?_
    refine AOps.cd hT hA {} (by (repeat (cbv; simp only [c4])); first | done | cbv) (lb rfl) ?_
    refine nT ?_
    refine AWp.seq ?_
    obtain ⟨v25, hvK26, h⟩ := bindS h
    refine AWp.cutN [2] [] 0 (lb rfl) (fun τ => τ = { env := [(2, (.d (.bool v25)))], heap := [], n := 55 }) ?_ ?_
    · skip
      refine AWp.region ?_
      rcases tf (A.zeq r8 r11) with c19 | c19
      · replace hvK26 := cT c19 hvK26
        rcases tf (A.zeq r9 r12) with c20 | c20
        · replace hvK26 := cT c20 hvK26
          rcases tf (A.beq r14 r17) with c21 | c21
          · replace hvK26 := cT c21 hvK26
            rcases tf (A.zeq r15 r18) with c22 | c22
            · replace hvK26 := cT c22 hvK26
              obtain ⟨r24, e23, hvK26⟩ := bindS hvK26
              refine AOps.cc hT hA { tk := [54] } (by (repeat (cbv; simp only [c4, c19, c20, c21, c22])); first | done | cbv) (lb rfl) (H19w hA e23) rfl (.inl rfl) rfl rfl rfl (lb rfl) rfl rfl ?_
              refine AOps.cd hT hA { tk := [54] } (by (repeat (cbv; simp only [c4, c19, c20, c21, c22])); first | done | cbv) (lb rfl) ?_
              cases soI hvK26
              exact oNi ⟨rfl, (by first | cbv | ((repeat (cbv; simp only [c4, c19, c20, c21, c22])); first | done | cbv))⟩
            · replace hvK26 := cF c22 hvK26
              refine AOps.cd hT hA { tk := [54] } (by (repeat (cbv; simp only [c4, c19, c20, c21, c22])); first | done | cbv) (lb rfl) ?_
              cases soI hvK26
              exact oNi ⟨rfl, (by first | cbv | ((repeat (cbv; simp only [c4, c19, c20, c21, c22])); first | done | cbv))⟩
          · replace hvK26 := cF c21 hvK26
            refine AOps.cd hT hA { tk := [54] } (by (repeat (cbv; simp only [c4, c19, c20, c21])); first | done | cbv) (lb rfl) ?_
            cases soI hvK26
            exact oNi ⟨rfl, (by first | cbv | ((repeat (cbv; simp only [c4, c19, c20, c21])); first | done | cbv))⟩
        · replace hvK26 := cF c20 hvK26
          refine AOps.cd hT hA { tk := [54] } (by (repeat (cbv; simp only [c4, c19, c20])); first | done | cbv) (lb rfl) ?_
          cases soI hvK26
          exact oNi ⟨rfl, (by first | cbv | ((repeat (cbv; simp only [c4, c19, c20])); first | done | cbv))⟩
      · replace hvK26 := cF c19 hvK26
        refine AOps.cd hT hA { tk := [54] } (by (repeat (cbv; simp only [c4, c19])); first | done | cbv) (lb rfl) ?_
        cases soI hvK26
        exact oNi ⟨rfl, (by first | cbv | ((repeat (cbv; simp only [c4, c19])); first | done | cbv))⟩
    · rintro _ rfl
      refine nT ?_
      refine AWp.ret ?_
      cases soI h
      exact ⟨rfl, rfl, rfl, lb rfl, _, rfl⟩

theorem H44w {A : Ar} (hA : A = Ar.std) {x1 : List D} {x2 : List D} {x3 : List D} {v17 : Bool} {v18 : Int} (h : H44 A x1 x2 x3 = some (v17, v18)) : ACall Try.prog 44 [(.d (.list 4 x1)), (.d (.list 6 x2)), (.d (.list 1 x3))] [] (.tuple [(.d (.bool v17)), (.d (.int .i64 v18))]) [] := by
  unfold H44 at h
  refine ACall.enter hT (fn := Try.f44) Try.func44 rfl (by decide) (by simp [Try.f44]) rfl rfl rfl rfl (lb rfl) ?_
  refine AWp.seq ?_
  refine AWp.rg hT hA {} (by cbv) (lb rfl) ?_
  refine nT ?_
  refine AWp.seq ?_
  refine AWp.region ?_
  obtain ⟨r5, e4, h⟩ := bindS h
  refine AOps.cc hT hA {} (by cbv) (lb rfl) (H75w hA e4) rfl (.inl rfl) rfl rfl rfl (lb rfl) rfl rfl ?_
  refine AOps.cd hT hA {} (by cbv) (lb rfl) ?_
  refine nT ?_
  refine AWp.seq ?_
  refine AWp.seq ?_
  refine AWp.rg hT hA {} (by cbv) (lb rfl) ?_
  refine nT ?_
  rcases tf (A.zeq r5 0) with c6 | c6
  · replace h := cT c6 h
    refine AWp.cdF rfl (by first | rfl | simp only [c6, Bool.not_true, Bool.not_false, cond_true, cond_false]) ?_
    refine AWp.skip ?_
    refine nT ?_
    refine AWp.seq ?_
    obtain ⟨v15, hvK16, h⟩ := bindS h
    refine AWp.cutN [6, 7] [] 0 (lb rfl) (fun τ => τ = { env := [(6, (.d (.bool v15))), (7, (.d (.int .i64 0)))], heap := [], n := 29 }) ?_ ?_
    · skip
      refine AWp.region ?_
      obtain ⟨r8, e7, hvK16⟩ := bindS hvK16
      refine AOps.cc hT hA {} (by (repeat (cbv; simp only [c6])); first | done | cbv) (lb rfl) (H93aw hA e7) rfl (.inl rfl) rfl rfl rfl (lb rfl) rfl rfl ?_
      rcases tf r8 with c9 | c9
      · replace hvK16 := cT c9 hvK16
        obtain ⟨r11, e10, hvK16⟩ := bindS hvK16
        refine AOps.cc hT hA {} (by (repeat (cbv; simp only [c6, c9])); first | done | cbv) (lb rfl) (H94aw hA e10) rfl (.inl rfl) rfl rfl rfl (lb rfl) rfl rfl ?_
        rcases tf r11 with c12 | c12
        · replace hvK16 := cT c12 hvK16
          obtain ⟨r14, e13, hvK16⟩ := bindS hvK16
          refine AOps.cc hT hA {} (by (repeat (cbv; simp only [c6, c9, c12])); first | done | cbv) (lb rfl) (H95aw hA e13) rfl (.inl rfl) rfl rfl rfl (lb rfl) rfl rfl ?_
          refine AOps.cd hT hA {} (by (repeat (cbv; simp only [c6, c9, c12])); first | done | cbv) (lb rfl) ?_
          cases soI hvK16
          exact oNi ⟨rfl, (by first | cbv | ((repeat (cbv; simp only [c6, c9, c12])); first | done | cbv))⟩
        · replace hvK16 := cF c12 hvK16
          refine AOps.cd hT hA {} (by (repeat (cbv; simp only [c6, c9, c12])); first | done | cbv) (lb rfl) ?_
          cases soI hvK16
          exact oNi ⟨rfl, (by first | cbv | ((repeat (cbv; simp only [c6, c9, c12])); first | done | cbv))⟩
      · replace hvK16 := cF c9 hvK16
        refine AOps.cd hT hA {} (by (repeat (cbv; simp only [c6, c9])); first | done | cbv) (lb rfl) ?_
        cases soI hvK16
        exact oNi ⟨rfl, (by first | cbv | ((repeat (cbv; simp only [c6, c9])); first | done | cbv))⟩
    · rintro _ rfl
      refine nT ?_
      refine AWp.ret ?_
      cases soI h
      exact ⟨rfl, rfl, rfl, lb rfl, _, rfl⟩
  · replace h := cF c6 h
    refine AWp.cdT rfl (by first | rfl | simp only [c6, Bool.not_true, Bool.not_false, cond_true, cond_false]) ?_
    refine AWp.seq ?_
    refine AWp.rg hT hA {} (by (repeat (cbv; simp only [c6])); first | done | cbv) (lb rfl) ?_
    refine nT ?_
    refine AWp.ret ?_
    refine rT ?_
    cases soI h
    exact ⟨rfl, rfl, rfl, lb rfl, _, rfl⟩

theorem H99w {A : Ar} (hA : A = Ar.std) {x1 : List D} {x2 : List D} {v76 : Bool} (h : H99 A x1 x2 = some v76) : ACall Try.prog 99 [(.d (.list 6 x1)), (.d (.list 1 x2))] [] (.d (.bool v76)) [] := by
  unfold H99 at h
  refine ACall.enter hT (fn := Try.f99) Try.func99 rfl (by decide) (by simp [Try.f99]) rfl rfl rfl rfl (lb rfl) ?_
  refine AWp.seq ?_
  refine AWp.rg hT hA {} (by cbv) (lb rfl) ?_
  refine nT ?_
  refine AWp.seq ?_
  refine AWp.rg hT hA {} (by cbv) (lb rfl) ?_
  refine nT ?_
  refine AWp.seq ?_
  refine AWp.seq ?_
  refine AWp.rg hT hA {} (by cbv) (lb rfl) ?_
  refine nT ?_
  refine AWp.block ?_
  obtain ⟨xK37, hxK37, K37, hK37, hkK37⟩ := bindK h
  refine AWp.cutX 0 [0, 5] [] 1 (lb rfl) (fun τ => ∃ v35, K37 (.inl v35) = some v76 ∧ τ = { env := [(0, (.d (.list 6 x1))), (5, (.map 0))], heap := [(.map false [.int .i64] v35)], n := 46 }) ?_ ?_
  · skip
    refine AWp.iter hxK37 [0, 5, 11, 12, 13] [] 1 (lb rfl) (fun (v18, v19) => { env := [(0, (.d (.list 6 x1))), (5, (.map 0)), (11, (.d (.list 1 x2))), (12, (.d (.int .i64 (A.len x2)))), (13, (.d (.int .i64 v18)))], heap := [(.map false [.int .i64] v19)], n := 46 }) ⟨rfl, (by cbv)⟩ ?_
    rintro ⟨v18, v19⟩ eK37 hsK37
    dsimp only [H99L0] at hsK37
    refine AWp.seq ?_
    refine AWp.rg hT hA {} (by cbv) (lb rfl) ?_
    refine nT ?_
    refine AWp.seq ?_
    rcases tf (A.zlt v18 (A.len x2)) with c20 | c20
    · replace hsK37 := cT c20 hsK37
      refine AWp.cdT rfl (by first | rfl | simp only [c20, Bool.not_true, Bool.not_false, cond_true, cond_false]) ?_
      refine AWp.skip ?_
      refine nT ?_
      refine AWp.seq ?_
      refine AWp.block ?_
      refine AWp.seq ?_
      obtain ⟨a21, e22, hsK37⟩ := bindS hsK37
      obtain ⟨f23, f24⟩ := gtI e22
      refine AWp.rg hT hA {} (by (repeat (cbv; simp only [c20, f23, f24])); first | done | cbv) (lb rfl) ?_
      refine nT ?_
      refine AWp.seq ?_
      refine AWp.seq ?_
      obtain ⟨v32, hvK33, hsK37⟩ := bindS hsK37
      refine AWp.cutN [0, 5, 7, 11, 12, 13, 25] [] 1 (lb rfl) (fun τ => τ = { env := [(0, (.d (.list 6 x1))), (5, (.map 0)), (7, (.d (.int .i64 a21))), (11, (.d (.list 1 x2))), (12, (.d (.int .i64 (A.len x2)))), (13, (.d (.int .i64 v18))), (25, (.d (.bool v32)))], heap := [(.map false [.int .i64] v19)], n := 46 }) ?_ ?_
      · skip
        refine AWp.region ?_
        obtain ⟨r26, e25, hvK33⟩ := bindS hvK33
        refine AOps.cc hT hA {} (by (repeat (cbv; simp only [c20])); first | done | cbv) (lb rfl) (H64w hA e25) rfl (.inr rfl) rfl rfl rfl (lb rfl) rfl rfl ?_
        rcases tf r26 with c27 | c27
        · replace hvK33 := cT c27 hvK33
          obtain ⟨o31, e29, hvK33⟩ := bindS hvK33
          rcases o31 with _ | a28
          · have f30 := lkN e29
            refine AOps.cd hT hA {} (by (repeat (cbv; simp only [c20, c27, f30])); first | done | cbv) (lb rfl) ?_
            cases soI hvK33
            exact oNi ⟨rfl, (by first | cbv | ((repeat (cbv; simp only [c20, c27])); first | done | cbv))⟩
          · have f30 := lkS e29
            refine AOps.cd hT hA {} (by (repeat (cbv; simp only [c20, c27, f30])); first | done | cbv) (lb rfl) ?_
            cases soI hvK33
            exact oNi ⟨rfl, (by first | cbv | ((repeat (cbv; simp only [c20, c27])); first | done | cbv))⟩
        · replace hvK33 := cF c27 hvK33
          refine AOps.cd hT hA {} (by (repeat (cbv; simp only [c20, c27])); first | done | cbv) (lb rfl) ?_
          cases soI hvK33
          exact oNi ⟨rfl, (by first | cbv | ((repeat (cbv; simp only [c20, c27])); first | done | cbv))⟩
      · rintro _ rfl
        refine nT ?_
        rcases tf v32 with c34 | c34
        · replace hsK37 := cT c34 hsK37
          refine AWp.cdT rfl (by first | rfl | simp only [c34, Bool.not_true, Bool.not_false, cond_true, cond_false]) ?_
          refine AWp.seq ?_
          refine AWp.rg hT hA {} (by (repeat (cbv; simp only [c34])); first | done | cbv) (lb rfl) ?_
          refine nT ?_
          refine AWp.ret ?_
          refine rT ?_
          refine rB ?_
          refine rT ?_
          refine rT ?_
          refine exL hsK37 fun hx => ?_
          subst hx
          refine oxR ?_
          replace hkK37 := (eR (hK37 _ hkK37))
          refine rB ?_
          refine rT ?_
          cases soI hkK37
          exact ⟨rfl, rfl, rfl, lb rfl, _, rfl⟩
        · replace hsK37 := cF c34 hsK37
          refine AWp.cdF rfl (by first | rfl | simp only [c34, Bool.not_true, Bool.not_false, cond_true, cond_false]) ?_
          refine AWp.skip ?_
          refine nT ?_
          refine AWp.rg hT hA {} (by (repeat (cbv; simp only [c34])); first | done | cbv) (lb rfl) ?_
          refine nB ?_
          refine nT ?_
          refine AWp.rg hT hA {} (by (repeat (cbv; simp only [c34])); first | done | cbv) (lb rfl) ?_
          exact nT ⟨_, (soI hsK37).symm, rfl, (by first | cbv | ((repeat (cbv; simp only [c34])); first | done | cbv))⟩
    · replace hsK37 := cF c20 hsK37
      refine AWp.cdF rfl (by first | rfl | simp only [c20, Bool.not_true, Bool.not_false, cond_true, cond_false]) ?_
      refine AWp.exit ?_
      refine xT ?_
      refine xT ?_
      refine exL hsK37 fun hx => ?_
      subst hx
      exact oxI ⟨rfl, _, hkK37, (by first | cbv | ((repeat (cbv; simp only [c20])); first | done | cbv))⟩
  · rintro _ ⟨v35, hkK37, rfl⟩
    have h := (eL (hK37 _ hkK37))
    refine xB ?_
    refine nT ?_
    refine AWp.seq ?_
    refine AWp.seq ?_
    refine AWp.rg hT hA {} (by cbv) (lb rfl) ?_
    refine nT ?_
    refine AWp.block ?_
    obtain ⟨xK75, hxK75, K75, hK75, hkK75⟩ := bindK h
    refine AWp.cutX 2 [] [] 1 (lb rfl) (fun τ => K75 (.inl ()) = some v76 ∧ τ = { env := [], heap := [(.map false [.int .i64] v35)], n := 46 }) ?_ ?_
    · skip
      refine AWp.iter hxK75 [5, 29, 30, 31] [] 1 (lb rfl) (fun v56 => { env := [(5, (.map 0)), (29, (.d (.list 6 x1))), (30, (.d (.int .i64 (A.len x1)))), (31, (.d (.int .i64 v56)))], heap := [(.map false [.int .i64] v35)], n := 46 }) ⟨rfl, (by cbv)⟩ ?_
      rintro v56 eK75 hsK75
      dsimp only [H99L1] at hsK75
      refine AWp.seq ?_
      refine AWp.rg hT hA {} (by cbv) (lb rfl) ?_
      refine nT ?_
      refine AWp.seq ?_
      rcases tf (A.zlt v56 (A.len x1)) with c57 | c57
      · replace hsK75 := cT c57 hsK75
        refine AWp.cdT rfl (by first | rfl | simp only [c57, Bool.not_true, Bool.not_false, cond_true, cond_false]) ?_
        refine AWp.skip ?_
        refine nT ?_
        refine AWp.seq ?_
        refine AWp.block ?_
        refine AWp.seq ?_
        obtain ⟨⟨a58, a59, a60, a61, a62, a63⟩, e64, hsK75⟩ := bindS hsK75
        obtain ⟨f65, f66⟩ := gtI e64
        refine AWp.rg hT hA { tk := [35] } (by (repeat (cbv; simp only [c57, f65, f66])); first | done | cbv) (lb rfl) ?_
        refine nT ?_
        refine AWp.seq ?_
        obtain ⟨v72, hvK73, hsK75⟩ := bindS hsK75
        refine AWp.cutN [5, 29, 30, 31, 44] [] 1 (lb rfl) (fun τ => τ = { env := [(5, (.map 0)), (29, (.d (.list 6 x1))), (30, (.d (.int .i64 (A.len x1)))), (31, (.d (.int .i64 v56))), (44, (.d (.bool v72)))], heap := [(.map false [.int .i64] v35)], n := 46 }) ?_ ?_
        · skip
          rcases tf (A.zlt 0 a63) with c67 | c67
          · replace hvK73 := cT c67 hvK73
            obtain ⟨o71, e69, hvK73⟩ := bindS hvK73
            rcases o71 with _ | a68
            · have f70 := lkN e69
              refine AWp.rg hT hA {} (by (repeat (cbv; simp only [c57, c67, f70])); first | done | cbv) (lb rfl) ?_
              cases soI hvK73
              exact oNi ⟨rfl, (by first | cbv | ((repeat (cbv; simp only [c57, c67])); first | done | cbv))⟩
            · have f70 := lkS e69
              refine AWp.rg hT hA {} (by (repeat (cbv; simp only [c57, c67, f70])); first | done | cbv) (lb rfl) ?_
              cases soI hvK73
              exact oNi ⟨rfl, (by first | cbv | ((repeat (cbv; simp only [c57, c67])); first | done | cbv))⟩
          · replace hvK73 := cF c67 hvK73
            refine AWp.rg hT hA {} (by (repeat (cbv; simp only [c57, c67])); first | done | cbv) (lb rfl) ?_
            cases soI hvK73
            exact oNi ⟨rfl, (by first | cbv | ((repeat (cbv; simp only [c57, c67])); first | done | cbv))⟩
        · rintro _ rfl
          refine nT ?_
          rcases tf v72 with c74 | c74
          · replace hsK75 := cT c74 hsK75
            refine AWp.cdT rfl (by first | rfl | simp only [c74, Bool.not_true, Bool.not_false, cond_true, cond_false]) ?_
            refine AWp.seq ?_
            refine AWp.rg hT hA {} (by (repeat (cbv; simp only [c74])); first | done | cbv) (lb rfl) ?_
            refine nT ?_
            refine AWp.ret ?_
            refine rB ?_
            refine rT ?_
            refine rT ?_
            refine exL hsK75 fun hx => ?_
            subst hx
            refine oxR ?_
            replace hkK75 := (eR (hK75 _ hkK75))
            refine rB ?_
            refine rT ?_
            cases soI hkK75
            exact ⟨rfl, rfl, rfl, lb rfl, _, rfl⟩
          · replace hsK75 := cF c74 hsK75
            refine AWp.cdF rfl (by first | rfl | simp only [c74, Bool.not_true, Bool.not_false, cond_true, cond_false]) ?_
            refine AWp.skip ?_
            refine nB ?_
            refine nT ?_
            refine AWp.rg hT hA {} (by (repeat (cbv; simp only [c74])); first | done | cbv) (lb rfl) ?_
            exact nT ⟨_, (soI hsK75).symm, rfl, (by first | cbv | ((repeat (cbv; simp only [c74])); first | done | cbv))⟩
      · replace hsK75 := cF c57 hsK75
        refine AWp.cdF rfl (by first | rfl | simp only [c57, Bool.not_true, Bool.not_false, cond_true, cond_false]) ?_
        refine AWp.exit ?_
        refine xT ?_
        refine xT ?_
        refine exL hsK75 fun hx => ?_
        subst hx
        exact oxI ⟨rfl, hkK75, (by first | cbv | ((repeat (cbv; simp only [c57])); first | done | cbv))⟩
    · rintro _ ⟨hkK75, rfl⟩
      have h := (eL (hK75 _ hkK75))
      refine xB ?_
      refine nT ?_
      refine AWp.seq ?_
      refine AWp.rg hT hA {} (by cbv) (lb rfl) ?_
      refine nT ?_
      refine AWp.ret ?_
      cases soI h
      exact ⟨rfl, rfl, rfl, lb rfl, _, rfl⟩

theorem H100w {A : Ar} (hA : A = Ar.std) {x1 : List D} {x2 : List D} {v135 : Bool} (h : H100 A x1 x2 = some v135) : ACall Try.prog 100 [(.d (.list 6 x1)), (.d (.list 1 x2)), (.func 66 [] [])] [] (.d (.bool v135)) [] := by
  unfold H100 at h
  refine ACall.enter hT (fn := Try.f100) Try.func100 rfl (by decide) (by simp [Try.f100]) rfl rfl rfl rfl (lb rfl) ?_
  refine AWp.seq ?_
  refine AWp.rg hT hA {} (by cbv) (lb rfl) ?_
  refine nT ?_
  refine AWp.seq ?_
  refine AWp.seq ?_
  refine AWp.rg hT hA {} (by cbv) (lb rfl) ?_
  refine nT ?_
  refine AWp.block ?_
  obtain ⟨xK134, hxK134, K134, hK134, hkK134⟩ := bindK h
  refine AWp.cutX 0 [] [] 0 (lb rfl) (fun τ => K134 (.inl ()) = some v135 ∧ τ = { env := [], heap := [], n := 38 }) ?_ ?_
  · skip
    refine AWp.iter hxK134 [0, 1, 2, 11, 12, 13] [] 0 (lb rfl) (fun v68 => { env := [(0, (.d (.list 6 x1))), (1, (.d (.list 1 x2))), (2, (.func 66 [] [])), (11, (.d (.list 1 x2))), (12, (.d (.int .i64 (A.len x2)))), (13, (.d (.int .i64 v68)))], heap := [], n := 38 }) ⟨rfl, (by cbv)⟩ ?_
    rintro v68 eK134 hsK134
    dsimp only [H100L1] at hsK134
    refine AWp.seq ?_
    refine AWp.rg hT hA {} (by cbv) (lb rfl) ?_
    refine nT ?_
    refine AWp.seq ?_
    rcases tf (A.zlt v68 (A.len x2)) with c69 | c69
    · replace hsK134 := cT c69 hsK134
      refine AWp.cdT rfl (by first | rfl | simp only [c69, Bool.not_true, Bool.not_false, cond_true, cond_false]) ?_
      refine AWp.skip ?_
      refine nT ?_
      refine AWp.seq ?_
      refine AWp.block ?_
      refine AWp.seq ?_
      obtain ⟨a70, e71, hsK134⟩ := bindS hsK134
      obtain ⟨f72, f73⟩ := gtI e71
      refine AWp.rg hT hA {} (by (repeat (cbv; simp only [c69, f72, f73])); first | done | cbv) (lb rfl) ?_
      refine nT ?_
      refine AWp.seq ?_
      obtain ⟨l74, e75, hsK134⟩ := bindS hsK134
      obtain ⟨f76, f77, f78, f79⟩ := slI e75
      refine AWp.rg hT hA {} (by (repeat (cbv; simp only [c69, f76, f77, f78, f79])); first | done | cbv) (lb rfl) ?_
      refine nT ?_
      refine AWp.block ?_
      obtain ⟨xK133, hxK133, K133, hK133, hkK133⟩ := bindK hsK134
      refine AWp.cutX 2 [0, 1, 2, 11, 12, 13] [] 0 (lb rfl) (fun τ => K133 (.inl ()) = some eK134 ∧ τ = { env := [(0, (.d (.list 6 x1))), (1, (.d (.list 1 x2))), (2, (.func 66 [] [])), (11, (.d (.list 1 x2))), (12, (.d (.int .i64 (A.len x2)))), (13, (.d (.int .i64 v68)))], heap := [], n := 38 }) ?_ ?_
      · skip
        refine AWp.iter hxK133 [0, 1, 2, 8, 11, 12, 13, 20, 21, 22] [] 0 (lb rfl) (fun v106 => { env := [(0, (.d (.list 6 x1))), (1, (.d (.list 1 x2))), (2, (.func 66 [] [])), (8, (.d (.int .i64 a70))), (11, (.d (.list 1 x2))), (12, (.d (.int .i64 (A.len x2)))), (13, (.d (.int .i64 v68))), (20, (.d (.list 1 l74))), (21, (.d (.int .i64 (A.len l74)))), (22, (.d (.int .i64 v106)))], heap := [], n := 38 }) ⟨rfl, (by first | cbv | ((repeat (cbv; simp only [c69])); first | done | cbv))⟩ ?_
        rintro v106 eK133 hsK133
        dsimp only [H100L0] at hsK133
        refine AWp.seq ?_
        refine AWp.rg hT hA {} (by cbv) (lb rfl) ?_
        refine nT ?_
        refine AWp.seq ?_
        rcases tf (A.zlt v106 (A.len l74)) with c107 | c107
        · replace hsK133 := cT c107 hsK133
          refine AWp.cdT rfl (by first | rfl | simp only [c107, Bool.not_true, Bool.not_false, cond_true, cond_false]) ?_
          refine AWp.skip ?_
          refine nT ?_
          refine AWp.seq ?_
          refine AWp.block ?_
          refine AWp.seq ?_
          obtain ⟨a108, e109, hsK133⟩ := bindS hsK133
          obtain ⟨f110, f111⟩ := gtI e109
          refine AWp.rg hT hA {} (by (repeat (cbv; simp only [c107, f110, f111])); first | done | cbv) (lb rfl) ?_
          refine nT ?_
          refine AWp.seq ?_
          refine AWp.regionDraw rfl (lb rfl) ?_
          obtain ⟨⟨a112, a113, a114, a115, a116, a117⟩, e118, hsK133⟩ := bindS hsK133
          obtain ⟨f119, f120⟩ := gtI e118
          obtain ⟨⟨a121, a122, a123, a124, a125, a126⟩, e127, hsK133⟩ := bindS hsK133
          obtain ⟨f128, f129⟩ := gtI e127
          obtain ⟨r131, e130, hsK133⟩ := bindS hsK133
          refine DOps.c0 hT hA {} rfl (by (repeat (cbv; simp only [c107, f119, f120, f128, f129])); first | done | cbv) (H66w hA e130) rfl rfl (lb rfl) rfl rfl ?_
          refine DOps.cd hT hA {} rfl (by (repeat (cbv; simp only [c107, f119, f120, f128, f129])); first | done | cbv) (by kernel_rfl) ?_
          refine nT ?_
          rcases tf r131 with c132 | c132
          · replace hsK133 := cT c132 hsK133
            refine AWp.cdT rfl (by first | rfl | simp only [c107, c132, Bool.not_true, Bool.not_false, cond_true, cond_false]) ?_
            refine AWp.seq ?_
            refine AWp.rg hT hA {} (by (repeat (cbv; simp only [c107, c132])); first | done | cbv) (lb rfl) ?_
            refine nT ?_
            refine AWp.ret ?_
            refine rB ?_
            refine rT ?_
            refine rT ?_
            refine exL hsK133 fun hx => ?_
            subst hx
            refine oxR ?_
            replace hkK133 := (eR (hK133 _ hkK133))
            refine rB ?_
            refine rB ?_
            refine rT ?_
            refine rT ?_
            refine exL hkK133 fun hx => ?_
            subst hx
            refine oxR ?_
            replace hkK134 := (eR (hK134 _ hkK134))
            refine rB ?_
            refine rT ?_
            cases soI hkK134
            exact ⟨rfl, rfl, rfl, lb rfl, _, rfl⟩
          · replace hsK133 := cF c132 hsK133
            refine AWp.cdF rfl (by first | rfl | simp only [c107, c132, Bool.not_true, Bool.not_false, cond_true, cond_false]) ?_
            refine AWp.skip ?_
            refine nB ?_
            refine nT ?_
            refine AWp.rg hT hA {} (by (repeat (cbv; simp only [c107, c132])); first | done | cbv) (lb rfl) ?_
            exact nT ⟨_, (soI hsK133).symm, rfl, (by first | cbv | ((repeat (cbv; simp only [c107, c132])); first | done | cbv))⟩
        · replace hsK133 := cF c107 hsK133
          refine AWp.cdF rfl (by first | rfl | simp only [c107, Bool.not_true, Bool.not_false, cond_true, cond_false]) ?_
          refine AWp.exit ?_
          refine xT ?_
          refine xT ?_
          refine exL hsK133 fun hx => ?_
          subst hx
          exact oxI ⟨rfl, hkK133, (by first | cbv | ((repeat (cbv; simp only [c107])); first | done | cbv))⟩
      · rintro _ ⟨hkK133, rfl⟩
        have hsK134 := (eL (hK133 _ hkK133))
        refine xB ?_
        refine nB ?_
        refine nT ?_
        refine AWp.rg hT hA {} (by cbv) (lb rfl) ?_
        exact nT ⟨_, (soI hsK134).symm, rfl, (by cbv)⟩
    · replace hsK134 := cF c69 hsK134
      refine AWp.cdF rfl (by first | rfl | simp only [c69, Bool.not_true, Bool.not_false, cond_true, cond_false]) ?_
      refine AWp.exit ?_
      refine xT ?_
      refine xT ?_
      refine exL hsK134 fun hx => ?_
      subst hx
      exact oxI ⟨rfl, hkK134, (by first | cbv | ((repeat (cbv; simp only [c69])); first | done | cbv))⟩
  · rintro _ ⟨hkK134, rfl⟩
    have h := (eL (hK134 _ hkK134))
    refine xB ?_
    refine nT ?_
    refine AWp.seq ?_
    refine AWp.rg hT hA {} (by cbv) (lb rfl) ?_
    refine nT ?_
    refine AWp.ret ?_
    cases soI h
    exact ⟨rfl, rfl, rfl, lb rfl, _, rfl⟩

theorem H101w {A : Ar} (hA : A = Ar.std) {x1 : List D} {x2 : List D} {x3 : List D} {v46 : Bool} (h : H101 A x1 x2 x3 = some v46) : ACall Try.prog 101 [(.d (.list 4 x1)), (.d (.list 6 x2)), (.d (.list 1 x3))] [] (.d (.bool v46)) [] := by
  unfold H101 at h
  refine ACall.enter hT (fn := Try.f101) Try.func101 rfl (by decide) (by simp [Try.f101]) rfl rfl rfl rfl (lb rfl) ?_
  refine AWp.seq ?_
  refine AWp.rg hT hA {} (by cbv) (lb rfl) ?_
  refine nT ?_
  refine AWp.seq ?_
  refine AWp.rg hT hA {} (by cbv) (lb rfl) ?_
  refine nT ?_
  refine AWp.seq ?_
  refine AWp.rg hT hA {} (by cbv) (lb rfl) ?_
  refine nT ?_
  refine AWp.seq ?_
  refine AWp.seq ?_
  refine AWp.rg hT hA {} (by cbv) (lb rfl) ?_
  refine nT ?_
  refine AWp.block ?_
  obtain ⟨xK45, hxK45, K45, hK45, hkK45⟩ := bindK h
  refine AWp.cutX 0 [] [] 0 (lb rfl) (fun τ => K45 (.inl ()) = some v46 ∧ τ = { env := [], heap := [], n := 30 }) ?_ ?_
  · skip
    refine AWp.iter hxK45 [0, 1, 7, 11, 12, 13] [] 0 (lb rfl) (fun (v23, v24, v25) => { env := [(0, (.d (.list 4 x1))), (1, (.d (.list 6 x2))), (7, (.lbox [(.d (.int .i64 v23)), (.d (.int .i64 v24))])), (11, (.d (.list 1 x3))), (12, (.d (.int .i64 (A.len x3)))), (13, (.d (.int .i64 v25)))], heap := [], n := 30 }) ⟨rfl, (by cbv)⟩ ?_
    rintro ⟨v23, v24, v25⟩ eK45 hsK45
    dsimp only [H101L0] at hsK45
    refine AWp.seq ?_
    refine AWp.rg hT hA {} (by cbv) (lb rfl) ?_
    refine nT ?_
    refine AWp.seq ?_
    rcases tf (A.zlt v25 (A.len x3)) with c26 | c26
    · replace hsK45 := cT c26 hsK45
      refine AWp.cdT rfl (by first | rfl | simp only [c26, Bool.not_true, Bool.not_false, cond_true, cond_false]) ?_
      refine AWp.skip ?_
      refine nT ?_
      refine AWp.seq ?_
      refine AWp.block ?_
      refine AWp.seq ?_
      obtain ⟨a27, e28, hsK45⟩ := bindS hsK45
      obtain ⟨f29, f30⟩ := gtI e28
      refine AWp.rg hT hA {} (by (repeat (cbv; simp only [c26, f29, f30])); first | done | cbv) (lb rfl) ?_
      refine nT ?_
      refine AWp.seq ?_
      refine AWp.regionDraw rfl (lb rfl) ?_
      obtain ⟨⟨a31, a32, a33, a34, a35, a36⟩, e37, hsK45⟩ := bindS hsK45
      obtain ⟨f38, f39⟩ := gtI e37
      obtain ⟨⟨r41, r42, r43⟩, e40, hsK45⟩ := bindS hsK45
      refine DOps.c0 hT hA { tk := [25] } rfl (by (repeat (cbv; simp only [c26, f38, f39])); first | done | cbv) (H78aw hA e40) rfl rfl (lb rfl) rfl rfl ?_
      refine DOps.cd hT hA { tk := [25] } rfl (by (repeat (cbv; simp only [c26, f38, f39])); first | done | cbv) (by kernel_rfl) ?_
      refine nT ?_
      refine AWp.seq ?_
      refine AWp.rg hT hA {} (by (repeat (cbv; simp only [c26])); first | done | cbv) (lb rfl) ?_
      refine nT ?_
      rcases tf r43 with c44 | c44
      · replace hsK45 := cT c44 hsK45
        refine AWp.cdF rfl (by first | rfl | simp only [c26, c44, Bool.not_true, Bool.not_false, cond_true, cond_false]) ?_
        refine AWp.skip ?_
        refine nB ?_
        refine nT ?_
        refine AWp.rg hT hA {} (by (repeat (cbv; simp only [c26, c44])); first | done | cbv) (lb rfl) ?_
        exact nT ⟨_, (soI hsK45).symm, rfl, (by first | cbv | ((repeat (cbv; simp only [c26, c44])); first | done | cbv))⟩
      · replace hsK45 := cF c44 hsK45
        refine AWp.cdT rfl (by first | rfl | simp only [c26, c44, Bool.not_true, Bool.not_false, cond_true, cond_false]) ?_
        refine AWp.seq ?_
        refine AWp.rg hT hA {} (by (repeat (cbv; simp only [c26, c44])); first | done | cbv) (lb rfl) ?_
        refine nT ?_
        refine AWp.ret ?_
        refine rB ?_
        refine rT ?_
        refine rT ?_
        refine exL hsK45 fun hx => ?_
        subst hx
        refine oxR ?_
        replace hkK45 := (eR (hK45 _ hkK45))
        refine rB ?_
        refine rT ?_
        cases soI hkK45
        exact ⟨rfl, rfl, rfl, lb rfl, _, rfl⟩
    · replace hsK45 := cF c26 hsK45
      refine AWp.cdF rfl (by first | rfl | simp only [c26, Bool.not_true, Bool.not_false, cond_true, cond_false]) ?_
      refine AWp.exit ?_
      refine xT ?_
      refine xT ?_
      refine exL hsK45 fun hx => ?_
      subst hx
      exact oxI ⟨rfl, hkK45, (by first | cbv | ((repeat (cbv; simp only [c26])); first | done | cbv))⟩
  · rintro _ ⟨hkK45, rfl⟩
    have h := (eL (hK45 _ hkK45))
    refine xB ?_
    refine nT ?_
    refine AWp.seq ?_
    refine AWp.rg hT hA {} (by cbv) (lb rfl) ?_
    refine nT ?_
    refine AWp.ret ?_
    cases soI h
    exact ⟨rfl, rfl, rfl, lb rfl, _, rfl⟩

theorem H46w {A : Ar} (hA : A = Ar.std) {x1 : List D} {x2 : List D} {x3 : List D} {v17 : Bool} {v18 : Int} (h : H46 A x1 x2 x3 = some (v17, v18)) : ACall Try.prog 46 [(.d (.list 4 x1)), (.d (.list 6 x2)), (.d (.list 1 x3))] [] (.tuple [(.d (.bool v17)), (.d (.int .i64 v18))]) [] := by
  unfold H46 at h
  refine ACall.enter hT (fn := Try.f46) Try.func46 rfl (by decide) (by simp [Try.f46]) rfl rfl rfl rfl (lb rfl) ?_
  refine AWp.seq ?_
  refine AWp.rg hT hA {} (by cbv) (lb rfl) ?_
  refine nT ?_
  refine AWp.seq ?_
  refine AWp.seq ?_
  refine AWp.region ?_
  obtain ⟨r5, e4, h⟩ := bindS h
  refine AOps.cc hT hA {} (by cbv) (lb rfl) (H71w hA e4) rfl (.inl rfl) rfl rfl rfl (lb rfl) rfl rfl ?_
  refine AOps.cd hT hA {} (by cbv) (lb rfl) ?_
  refine nT ?_
  refine AWp.seq ?_
  refine AWp.rg hT hA {} (by cbv) (lb rfl) ?_
  refine nT ?_
  rcases tf (A.zeq r5 0) with c6 | c6
  · replace h := cT c6 h
    refine AWp.cdF rfl (by first | rfl | simp only [c6, Bool.not_true, Bool.not_false, cond_true, cond_false]) ?_
    refine AWp.skip ?_
    refine nT ?_
    refine AWp.seq ?_
    obtain ⟨v15, hvK16, h⟩ := bindS h
    refine AWp.cutN [6, 7] [] 0 (lb rfl) (fun τ => τ = { env := [(6, (.d (.bool v15))), (7, (.d (.int .i64 0)))], heap := [], n := 29 }) ?_ ?_
    · skip
      refine AWp.region ?_
      obtain ⟨r8, e7, hvK16⟩ := bindS hvK16
      refine AOps.cc hT hA {} (by (repeat (cbv; simp only [c6])); first | done | cbv) (lb rfl) (H99w hA e7) rfl (.inl rfl) rfl rfl rfl (lb rfl) rfl rfl ?_
      rcases tf r8 with c9 | c9
      · replace hvK16 := cT c9 hvK16
        obtain ⟨r11, e10, hvK16⟩ := bindS hvK16
        refine AOps.cc hT hA {} (by (repeat (cbv; simp only [c6, c9])); first | done | cbv) (lb rfl) (H100w hA e10) rfl (.inl rfl) rfl rfl rfl (lb rfl) rfl rfl ?_
        rcases tf r11 with c12 | c12
        · replace hvK16 := cT c12 hvK16
          obtain ⟨r14, e13, hvK16⟩ := bindS hvK16
          refine AOps.cc hT hA {} (by (repeat (cbv; simp only [c6, c9, c12])); first | done | cbv) (lb rfl) (H101w hA e13) rfl (.inl rfl) rfl rfl rfl (lb rfl) rfl rfl ?_
          refine AOps.cd hT hA {} (by (repeat (cbv; simp only [c6, c9, c12])); first | done | cbv) (lb rfl) ?_
          cases soI hvK16
          exact oNi ⟨rfl, (by first | cbv | ((repeat (cbv; simp only [c6, c9, c12])); first | done | cbv))⟩
        · replace hvK16 := cF c12 hvK16
          refine AOps.cd hT hA {} (by (repeat (cbv; simp only [c6, c9, c12])); first | done | cbv) (lb rfl) ?_
          cases soI hvK16
          exact oNi ⟨rfl, (by first | cbv | ((repeat (cbv; simp only [c6, c9, c12])); first | done | cbv))⟩
      · replace hvK16 := cF c9 hvK16
        refine AOps.cd hT hA {} (by (repeat (cbv; simp only [c6, c9])); first | done | cbv) (lb rfl) ?_
        cases soI hvK16
        exact oNi ⟨rfl, (by first | cbv | ((repeat (cbv; simp only [c6, c9])); first | done | cbv))⟩
    · rintro _ rfl
      refine nT ?_
      refine AWp.ret ?_
      cases soI h
      exact ⟨rfl, rfl, rfl, lb rfl, _, rfl⟩
  · replace h := cF c6 h
    refine AWp.cdT rfl (by first | rfl | simp only [c6, Bool.not_true, Bool.not_false, cond_true, cond_false]) ?_
    refine AWp.seq ?_
    refine AWp.rg hT hA {} (by (repeat (cbv; simp only [c6])); first | done | cbv) (lb rfl) ?_
    refine nT ?_
    refine AWp.ret ?_
    refine rT ?_
    cases soI h
    exact ⟨rfl, rfl, rfl, lb rfl, _, rfl⟩

theorem H106w {A : Ar} (hA : A = Ar.std) {x1 : List D} {x2 : List D} {v5 : Bool} (h : H106 A x1 x2 = some v5) : ACall Try.prog 106 [(.ptr 0 0), (.ptr 1 0)] [(.cells [(.d (.list 6 x1))]), (.cells [(.d (.list 1 x2))])] (.d (.bool v5)) [(.cells [(.d (.list 6 x1))]), (.cells [(.d (.list 1 x2))])] := by
  unfold H106 at h
  refine ACall.enter hT (fn := Try.f106) Try.func106 rfl (by decide) (by simp [Try.f106]) rfl rfl rfl rfl (lb rfl) ?_
  refine AWp.seq ?_
  refine AWp.rg hT hA {} (by cbv) (lb rfl) ?_
  refine nT ?_
  refine AWp.seq ?_
  refine AWp.region ?_
  obtain ⟨r4, e3, h⟩ := bindS h
  refine AOps.cc hT hA { tk := [5] } (by cbv) (lb rfl) (H99w hA e3) rfl (.inr rfl) rfl rfl rfl (lb rfl) rfl rfl ?_
  refine AOps.cd hT hA { tk := [5] } (by cbv) (lb rfl) ?_
  refine nT ?_
  refine AWp.ret ?_
  cases soI h
  exact ⟨rfl, rfl, rfl, lb rfl, _, rfl⟩

theorem H100aw {A : Ar} (hA : A = Ar.std) {x1 : List D} {x2 : List D} {v135 : Bool} (h : H100a A x1 x2 = some v135) : ACall Try.prog 100 [(.d (.list 6 x1)), (.d (.list 1 x2)), (.func 73 [] [])] [] (.d (.bool v135)) [] := by
  unfold H100a at h
  refine ACall.enter hT (fn := Try.f100) Try.func100 rfl (by decide) (by simp [Try.f100]) rfl rfl rfl rfl (lb rfl) ?_
  refine AWp.seq ?_
  refine AWp.rg hT hA {} (by cbv) (lb rfl) ?_
  refine nT ?_
  refine AWp.seq ?_
  refine AWp.seq ?_
  refine AWp.rg hT hA {} (by cbv) (lb rfl) ?_
  refine nT ?_
  refine AWp.block ?_
  obtain ⟨xK134, hxK134, K134, hK134, hkK134⟩ := bindK h
  refine AWp.cutX 0 [] [] 0 (lb rfl) (fun τ => K134 (.inl ()) = some v135 ∧ τ = { env := [], heap := [], n := 38 }) ?_ ?_
  · skip
    refine AWp.iter hxK134 [0, 1, 2, 11, 12, 13] [] 0 (lb rfl) (fun v68 => { env := [(0, (.d (.list 6 x1))), (1, (.d (.list 1 x2))), (2, (.func 73 [] [])), (11, (.d (.list 1 x2))), (12, (.d (.int .i64 (A.len x2)))), (13, (.d (.int .i64 v68)))], heap := [], n := 38 }) ⟨rfl, (by cbv)⟩ ?_
    rintro v68 eK134 hsK134
    dsimp only [H100aL1] at hsK134
    refine AWp.seq ?_
    refine AWp.rg hT hA {} (by cbv) (lb rfl) ?_
    refine nT ?_
    refine AWp.seq ?_
    rcases tf (A.zlt v68 (A.len x2)) with c69 | c69
    · replace hsK134 := cT c69 hsK134
      refine AWp.cdT rfl (by first | rfl | simp only [c69, Bool.not_true, Bool.not_false, cond_true, cond_false]) ?_
      refine AWp.skip ?_
      refine nT ?_
      refine AWp.seq ?_
      refine AWp.block ?_
      refine AWp.seq ?_
      obtain ⟨a70, e71, hsK134⟩ := bindS hsK134
      obtain ⟨f72, f73⟩ := gtI e71
      refine AWp.rg hT hA {} (by (repeat (cbv; simp only [c69, f72, f73])); first | done | cbv) (lb rfl) ?_
      refine nT ?_
      refine AWp.seq ?_
      obtain ⟨l74, e75, hsK134⟩ := bindS hsK134
      obtain ⟨f76, f77, f78, f79⟩ := slI e75
      refine AWp.rg hT hA {} (by (repeat (cbv; simp only [c69, f76, f77, f78, f79])); first | done | cbv) (lb rfl) ?_
      refine nT ?_
      refine AWp.block ?_
      obtain ⟨xK133, hxK133, K133, hK133, hkK133⟩ := bindK hsK134
      refine AWp.cutX 2 [0, 1, 2, 11, 12, 13] [] 0 (lb rfl) (fun τ => K133 (.inl ()) = some eK134 ∧ τ = { env := [(0, (.d (.list 6 x1))), (1, (.d (.list 1 x2))), (2, (.func 73 [] [])), (11, (.d (.list 1 x2))), (12, (.d (.int .i64 (A.len x2)))), (13, (.d (.int .i64 v68)))], heap := [], n := 38 }) ?_ ?_
      · skip
        refine AWp.iter hxK133 [0, 1, 2, 8, 11, 12, 13, 20, 21, 22] [] 0 (lb rfl) (fun v106 => { env := [(0, (.d (.list 6 x1))), (1, (.d (.list 1 x2))), (2, (.func 73 [] [])), (8, (.d (.int .i64 a70))), (11, (.d (.list 1 x2))), (12, (.d (.int .i64 (A.len x2)))), (13, (.d (.int .i64 v68))), (20, (.d (.list 1 l74))), (21, (.d (.int .i64 (A.len l74)))), (22, (.d (.int .i64 v106)))], heap := [], n := 38 }) ⟨rfl, (by first | cbv | ((repeat (cbv; simp only [c69])); first | done | cbv))⟩ ?_
        rintro v106 eK133 hsK133
        dsimp only [H100aL0] at hsK133
        refine AWp.seq ?_
        refine AWp.rg hT hA {} (by cbv) (lb rfl) ?_
        refine nT ?_
        refine AWp.seq ?_
        rcases tf (A.zlt v106 (A.len l74)) with c107 | c107
        · replace hsK133 := cT c107 hsK133
          refine AWp.cdT rfl (by first | rfl | simp only [c107, Bool.not_true, Bool.not_false, cond_true, cond_false]) ?_
          refine AWp.skip ?_
          refine nT ?_
          refine AWp.seq ?_
          refine AWp.block ?_
          refine AWp.seq ?_
          obtain ⟨a108, e109, hsK133⟩ := bindS hsK133
          obtain ⟨f110, f111⟩ := gtI e109
          refine AWp.rg hT hA {} (by (repeat (cbv; simp only [c107, f110, f111])); first | done | cbv) (lb rfl) ?_
          refine nT ?_
          refine AWp.seq ?_
          refine AWp.regionDraw rfl (lb rfl) ?_
          obtain ⟨⟨a112, a113, a114, a115, a116, a117⟩, e118, hsK133⟩ := bindS hsK133
          obtain ⟨f119, f120⟩ := gtI e118
          obtain ⟨⟨a121, a122, a123, a124, a125, a126⟩, e127, hsK133⟩ := bindS hsK133
          obtain ⟨f128, f129⟩ := gtI e127
          obtain ⟨r131, e130, hsK133⟩ := bindS hsK133
          refine DOps.c0 hT hA {} rfl (by (repeat (cbv; simp only [c107, f119, f120, f128, f129])); first | done | cbv) (H73aw hA e130) rfl rfl (lb rfl) rfl rfl ?_
          refine DOps.cd hT hA {} rfl (by (repeat (cbv; simp only [c107, f119, f120, f128, f129])); first | done | cbv) (by kernel_rfl) ?_
          refine nT ?_
          rcases tf r131 with c132 | c132
          · replace hsK133 := cT c132 hsK133
            refine AWp.cdT rfl (by first | rfl | simp only [c107, c132, Bool.not_true, Bool.not_false, cond_true, cond_false]) ?_
            refine AWp.seq ?_
            refine AWp.rg hT hA {} (by (repeat (cbv; simp only [c107, c132])); first | done | cbv) (lb rfl) ?_
            refine nT ?_
            refine AWp.ret ?_
            refine rB ?_
            refine rT ?_
            refine rT ?_
            refine exL hsK133 fun hx => ?_
            subst hx
            refine oxR ?_
            replace hkK133 := (eR (hK133 _ hkK133))
            refine rB ?_
            refine rB ?_
            refine rT ?_
            refine rT ?_
            refine exL hkK133 fun hx => ?_
            subst hx
            refine oxR ?_
            replace hkK134 := (eR (hK134 _ hkK134))
            refine rB ?_
            refine rT ?_
            cases soI hkK134
            exact ⟨rfl, rfl, rfl, lb rfl, _, rfl⟩
          · replace hsK133 := cF c132 hsK133
            refine AWp.cdF rfl (by first | rfl | simp only [c107, c132, Bool.not_true, Bool.not_false, cond_true, cond_false]) ?_
            refine AWp.skip ?_
            refine nB ?_
            refine nT ?_
            refine AWp.rg hT hA {} (by (repeat (cbv; simp only [c107, c132])); first | done | cbv) (lb rfl) ?_
            exact nT ⟨_, (soI hsK133).symm, rfl, (by first | cbv | ((repeat (cbv; simp only [c107, c132])); first | done | cbv))⟩
        · replace hsK133 := cF c107 hsK133
          refine AWp.cdF rfl (by first | rfl | simp only [c107, Bool.not_true, Bool.not_false, cond_true, cond_false]) ?_
          refine AWp.exit ?_
          refine xT ?_
          refine xT ?_
          refine exL hsK133 fun hx => ?_
          subst hx
          exact oxI ⟨rfl, hkK133, (by first | cbv | ((repeat (cbv; simp only [c107])); first | done | cbv))⟩
      · rintro _ ⟨hkK133, rfl⟩
        have hsK134 := (eL (hK133 _ hkK133))
        refine xB ?_
        refine nB ?_
        refine nT ?_
        refine AWp.rg hT hA {} (by cbv) (lb rfl) ?_
        exact nT ⟨_, (soI hsK134).symm, rfl, (by cbv)⟩
    · replace hsK134 := cF c69 hsK134
      refine AWp.cdF rfl (by first | rfl | simp only [c69, Bool.not_true, Bool.not_false, cond_true, cond_false]) ?_
      refine AWp.exit ?_
      refine xT ?_
      refine xT ?_
      refine exL hsK134 fun hx => ?_
      subst hx
      exact oxI ⟨rfl, hkK134, (by first | cbv | ((repeat (cbv; simp only [c69])); first | done | cbv))⟩
  · rintro _ ⟨hkK134, rfl⟩
    have h := (eL (hK134 _ hkK134))
    refine xB ?_
    refine nT ?_
    refine AWp.seq ?_
    refine AWp.rg hT hA {} (by cbv) (lb rfl) ?_
    refine nT ?_
    refine AWp.ret ?_
    cases soI h
    exact ⟨rfl, rfl, rfl, lb rfl, _, rfl⟩

theorem H107w {A : Ar} (hA : A = Ar.std) {x1 : List D} {x2 : List D} {v7 : Bool} {v8 : Bool} (h : H107 A x1 x2 = some (v7, v8)) : ACall Try.prog 107 [(.ptr 0 0), (.ptr 1 0)] [(.cells [(.d (.list 6 x1))]), (.cells [(.d (.list 1 x2))])] (.d (.agg [(.bool v7), (.bool v8)])) [(.cells [(.d (.list 6 x1))]), (.cells [(.d (.list 1 x2))])] := by
  unfold H107 at h
  refine ACall.enter hT (fn := Try.f107) Try.func107 rfl (by decide) (by simp [Try.f107]) rfl rfl rfl rfl (lb rfl) ?_
  refine AWp.seq ?_
  refine AWp.rg hT hA {} (by cbv) (lb rfl) ?_
  refine nT ?_
  refine AWp.seq ?_
  refine AWp.regionDraw rfl (lb rfl) ?_
  obtain ⟨r4, e3, h⟩ := bindS h
  refine DOps.c0 hT hA { tk := [9] } rfl (by cbv) (H100w hA e3) rfl rfl (lb rfl) rfl rfl ?_
  obtain ⟨r6, e5, h⟩ := bindS h
  refine DOps.c0 hT hA { tk := [9] } rfl (by cbv) (H100aw hA e5) rfl rfl (lb rfl) rfl rfl ?_
  refine DOps.cd hT hA { tk := [9] } rfl (by cbv) (by kernel_rfl) ?_
  refine nT ?_
  refine AWp.ret ?_
  cases soI h
  exact ⟨rfl, rfl, rfl, lb rfl, _, rfl⟩

theorem H105w {A : Ar} (hA : A = Ar.std) {x1 : List D} {x2 : List D} {x3 : List D} {v13 : Bool} {v14 : Bool} {v15 : Int} (h : H105 A x1 x2 x3 = some (v13, v14, v15)) : ACall Try.prog 105 [(.d (.list 6 x1)), (.func 106 [] [(.ptr 0 0), (.ptr 1 0)]), (.func 107 [] [(.ptr 0 0), (.ptr 1 0)])] [(.cells [(.d (.list 6 x2))]), (.cells [(.d (.list 1 x3))])] (.tuple [(.d (.agg [(.bool v13), (.bool v14)])), (.d (.int .i64 v15))]) [(.cells [(.d (.list 6 x2))]), (.cells [(.d (.list 1 x3))])] := by
  unfold H105 at h
  refine ACall.enter hT (fn := Try.f105) Try.func105 rfl (by decide) (by simp [Try.f105]) rfl rfl rfl rfl (lb rfl) ?_
  refine AWp.seq ?_
  refine AWp.rg hT hA {} (by cbv) (lb rfl) ?_
  refine nT ?_
  refine AWp.seq ?_
  refine AWp.rg hT hA {} (by cbv) (lb rfl) ?_
  refine nT ?_
  refine AWp.seq ?_
  refine AWp.block ?_
  refine AWp.seq ?_
  refine AWp.region ?_
  obtain ⟨r5, e4, h⟩ := bindS h
  refine AOps.cc hT hA {} (by cbv) (lb rfl) (H24w hA e4) rfl (.inr rfl) rfl rfl rfl (lb rfl) rfl rfl ?_
  refine AOps.cd hT hA {} (by cbv) (lb rfl) ?_
  refine nT ?_
  rcases tf r5 with c6 | c6
  · replace h := cT c6 h
    refine AWp.cdF rfl (by first | rfl | simp only [c6, Bool.not_true, Bool.not_false, cond_true, cond_false]) ?_
    refine AWp.seq ?_
    refine AWp.region ?_
    obtain ⟨r8, e7, h⟩ := bindS h
    refine AOps.cc hT hA {} (by (repeat (cbv; simp only [c6])); first | done | cbv) (lb rfl) (H106w hA e7) rfl (.inl rfl) rfl rfl rfl (lb rfl) rfl rfl ?_
    refine AOps.cd hT hA {} (by (repeat (cbv; simp only [c6])); first | done | cbv) (lb rfl) ?_
    refine nT ?_
    rcases tf r8 with c9 | c9
    · replace h := cT c9 h
      refine AWp.cdF rfl (by first | rfl | simp only [c6, c9, Bool.not_true, Bool.not_false, cond_true, cond_false]) ?_
      refine AWp.skip ?_
      refine nB ?_
      refine nT ?_
      refine AWp.seq ?_
      refine AWp.region ?_
      obtain ⟨⟨r11, r12⟩, e10, h⟩ := bindS h
      refine AOps.cc hT hA { tk := [20] } (by (repeat (cbv; simp only [c6, c9])); first | done | cbv) (lb rfl) (H107w hA e10) rfl (.inl rfl) rfl rfl rfl (lb rfl) rfl rfl ?_
      refine AOps.cd hT hA { tk := [20] } (by (repeat (cbv; simp only [c6, c9])); first | done | cbv) (lb rfl) ?_
      refine nT ?_
      refine AWp.ret ?_
      cases soI h
      exact ⟨rfl, rfl, rfl, lb rfl, _, rfl⟩
    · replace h := cF c9 h
      refine AWp.cdT rfl (by first | rfl | simp only [c6, c9, Bool.not_true, Bool.not_false, cond_true, cond_false]) ?_
      refine AWp.seq ?_
      refine AWp.rg hT hA { tk := [18] } (by (repeat (cbv; simp only [c6, c9])); first | done | cbv) (lb rfl) ?_
      refine nT ?_
      refine AWp.ret ?_
      refine rB ?_
      refine rT ?_
      cases soI h
      exact ⟨rfl, rfl, rfl, lb rfl, _, rfl⟩
  · replace h := cF c6 h
    refine AWp.cdT rfl (by first | rfl | simp only [c6, Bool.not_true, Bool.not_false, cond_true, cond_false]) ?_
    refine AWp.seq ?_
    refine AWp.rg hT hA { tk := [13] } (by (repeat (cbv; simp only [c6])); first | done | cbv) (lb rfl) ?_
    refine nT ?_
    refine AWp.ret ?_
    refine rB ?_
    refine rT ?_
    cases soI h
    exact ⟨rfl, rfl, rfl, lb rfl, _, rfl⟩

theorem H51w {A : Ar} (hA : A = Ar.std) {x1 : List D} {x2 : List D} {v7 : Bool} {v8 : Bool} {v9 : Int} (h : H51 A x1 x2 = some (v7, v8, v9)) : ACall Try.prog 51 [(.d (.list 6 x1)), (.d (.list 1 x2))] [] (.tuple [(.d (.bool v7)), (.d (.bool v8)), (.d (.int .i64 v9))]) [] := by
  unfold H51 at h
  refine ACall.enter hT (fn := Try.f51) Try.func51 rfl (by decide) (by simp [Try.f51]) rfl rfl rfl rfl (lb rfl) ?_
  refine AWp.seq ?_
  refine AWp.rg hT hA { esc := [2, 3] } (by cbv) (lb rfl) ?_
  refine nT ?_
  refine AWp.seq ?_
  refine AWp.region ?_
  obtain ⟨⟨r4, r5, r6⟩, e3, h⟩ := bindS h
  refine AOps.cc hT hA { tk := [14] } (by cbv) (lb rfl) (H105w hA e3) rfl (.inl rfl) rfl rfl rfl (lb rfl) rfl rfl ?_
  refine AOps.cd hT hA { tk := [14] } (by cbv) (lb rfl) ?_
  refine nT ?_
  refine AWp.seq ?_
  refine AWp.rd hT hA {} rfl (by cbv) (by kernel_rfl) (lb rfl) ?_
  refine nT ?_
  refine AWp.ret ?_
  cases soI h
  exact ⟨rfl, rfl, rfl, lb rfl, _, rfl⟩

theorem H52w {A : Ar} (hA : A = Ar.std) {x1 : List D} {x2 : List D} {v13 : Bool} {v14 : Bool} {v15 : Int} (h : H52 A x1 x2 = some (v13, v14, v15)) : ACall Try.prog 52 [(.d (.list 6 x1)), (.d (.list 1 x2))] [] (.tuple [(.d (.bool v13)), (.d (.bool v14)), (.d (.int .i64 v15))]) [] := by
  unfold H52 at h
  refine ACall.enter hT (fn := Try.f52) Try.func52 rfl (by decide) (by simp [Try.f52]) rfl rfl rfl rfl (lb rfl) ?_
  refine AWp.seq ?_
  refine AWp.rg hT hA {} (by cbv) (lb rfl) ?_
  refine nT ?_
  refine AWp.seq ?_
  refine AWp.seq ?_
  refine AWp.region ?_
  obtain ⟨r4, e3, h⟩ := bindS h
  refine AOps.cc hT hA {} (by cbv) (lb rfl) (H25w hA e3) rfl (.inl rfl) rfl rfl rfl (lb rfl) rfl rfl ?_
  refine AOps.cd hT hA {} (by cbv) (lb rfl) ?_
  refine nT ?_
  rcases tf r4 with c5 | c5
  · replace h := cT c5 h
    refine AWp.cdF rfl (by first | rfl | simp only [c5, Bool.not_true, Bool.not_false, cond_true, cond_false]) ?_
    refine AWp.skip ?_
    refine nT ?_
    refine AWp.seq ?_
    refine AWp.seq ?_
    refine AWp.region ?_
    obtain ⟨r7, e6, h⟩ := bindS h
    refine AOps.cc hT hA {} (by (repeat (cbv; simp only [c5])); first | done | cbv) (lb rfl) (H93aw hA e6) rfl (.inl rfl) rfl rfl rfl (lb rfl) rfl rfl ?_
    refine AOps.cd hT hA {} (by (repeat (cbv; simp only [c5])); first | done | cbv) (lb rfl) ?_
    refine nT ?_
    rcases tf r7 with c8 | c8
    · replace h := cT c8 h
      refine AWp.cdF rfl (by first | rfl | simp only [c5, c8, Bool.not_true, Bool.not_false, cond_true, cond_false]) ?_
      refine AWp.skip ?_
      refine nT ?_
      refine AWp.seq ?_
      refine AWp.region ?_
      obtain ⟨r10, e9, h⟩ := bindS h
      refine AOps.cc hT hA {} (by (repeat (cbv; simp only [c5, c8])); first | done | cbv) (lb rfl) (H94aw hA e9) rfl (.inl rfl) rfl rfl rfl (lb rfl) rfl rfl ?_
      obtain ⟨r12, e11, h⟩ := bindS h
      refine AOps.cc hT hA {} (by (repeat (cbv; simp only [c5, c8])); first | done | cbv) (lb rfl) (H108aw hA e11) rfl (.inl rfl) rfl rfl rfl (lb rfl) rfl rfl ?_
      refine AOps.cd hT hA {} (by (repeat (cbv; simp only [c5, c8])); first | done | cbv) (lb rfl) ?_
      refine nT ?_
      refine AWp.ret ?_
      cases soI h
      exact ⟨rfl, rfl, rfl, lb rfl, _, rfl⟩
    · replace h := cF c8 h
      refine AWp.cdT rfl (by first | rfl | simp only [c5, c8, Bool.not_true, Bool.not_false, cond_true, cond_false]) ?_
      refine AWp.seq ?_
      refine AWp.rg hT hA {} (by (repeat (cbv; simp only [c5, c8])); first | done | cbv) (lb rfl) ?_
      refine nT ?_
      refine AWp.ret ?_
      refine rT ?_
      cases soI h
      exact ⟨rfl, rfl, rfl, lb rfl, _, rfl⟩
  · replace h := cF c5 h
    refine AWp.cdT rfl (by first | rfl | simp only [c5, Bool.not_true, Bool.not_false, cond_true, cond_false]) ?_
    refine AWp.seq ?_
    refine AWp.rg hT hA {} (by (repeat (cbv; simp only [c5])); first | done | cbv) (lb rfl) ?_
    refine nT ?_
    refine AWp.ret ?_
    refine rT ?_
    cases soI h
    exact ⟨rfl, rfl, rfl, lb rfl, _, rfl⟩

theorem H12w {A : Ar} (hA : A = Ar.std) {x1 : List D} {x2 : List D} {v26 : Bool} (h : H12 A x1 x2 = some v26) : ACall Try.prog 12 [(.d (.list 6 x1)), (.d (.list 1 x2))] [] (.d (.bool v26)) [] := by
  unfold H12 at h
  refine ACall.enter hT (fn := Try.f12) Try.func12 rfl (by decide) (by simp [Try.f12]) rfl rfl rfl rfl (lb rfl) ?_
  refine AWp.seq ?_
  refine AWp.rg hT hA {} (by cbv) (lb rfl) ?_
  refine nT ?_
  refine AWp.seq ?_
  refine AWp.seq ?_
  obtain ⟨v6, hvK7, h⟩ := bindS h
  refine AWp.cutN [0, 1, 17] [] 0 (lb rfl) (fun τ => τ = { env := [(0, (.d (.list 6 x1))), (1, (.d (.list 1 x2))), (17, (.d (.bool v6)))], heap := [], n := 49 }) ?_ ?_
  · skip
    refine AWp.region ?_
    obtain ⟨r4, e3, hvK7⟩ := bindS hvK7
    refine AOps.cc hT hA {} (by cbv) (lb rfl) (H18w hA e3) rfl (.inl rfl) rfl rfl rfl (lb rfl) rfl rfl ?_
    rcases tf r4 with c5 | c5
    · replace hvK7 := cT c5 hvK7
      refine AOps.cd hT hA {} (by (repeat (cbv; simp only [c5])); first | done | cbv) (lb rfl) ?_
      cases soI hvK7
      exact oNi ⟨rfl, (by first | cbv | ((repeat (cbv; simp only [c5])); first | done | cbv))⟩
    · replace hvK7 := cF c5 hvK7
      refine AOps.cd hT hA {} (by (repeat (cbv; simp only [c5])); first | done | cbv) (lb rfl) ?_
      cases soI hvK7
      exact oNi ⟨rfl, (by first | cbv | ((repeat (cbv; simp only [c5])); first | done | cbv))⟩
  · rintro _ rfl
    refine nT ?_
    rcases tf v6 with c8 | c8
    · replace h := cT c8 h
      refine AWp.cdT rfl (by first | rfl | simp only [c8, Bool.not_true, Bool.not_false, cond_true, cond_false]) ?_
      refine AWp.seq ?_
      refine AWp.region ?_
      obtain ⟨r10, e9, h⟩ := bindS h
      refine AOps.cc hT hA { tk := [18] } (by (repeat (cbv; simp only [c8])); first | done | cbv) (lb rfl) (H19w hA e9) rfl (.inl rfl) rfl rfl rfl (lb rfl) rfl rfl ?_
      refine AOps.cd hT hA { tk := [18] } (by (repeat (cbv; simp only [c8])); first | done | cbv) (lb rfl) ?_
      refine nT ?_
      refine AWp.ret ?_
      refine rT ?_
      cases soI h
      exact ⟨rfl, rfl, rfl, lb rfl, _, rfl⟩
    · replace h := cF c8 h
      refine AWp.cdF rfl (by first | rfl | simp only [c8, Bool.not_true, Bool.not_false, cond_true, cond_false]) ?_
      refine AWp.skip ?_
      refine nT ?_
      refine AWp.seq ?_
      refine AWp.region ?_
      obtain ⟨⟨r12, r13, r14⟩, e11, h⟩ := bindS h
      refine AOps.cc hT hA {} (by (repeat (cbv; simp only [c8])); first | done | cbv) (lb rfl) (H51w hA e11) rfl (.inl rfl) rfl rfl rfl (lb rfl) rfl rfl ?_
      refine AOps.cd hT hA {} (by (repeat (cbv; simp only [c8])); first | done | cbv) (lb rfl) ?_
      refine nT ?_
      refine AWp.seq ?_
      refine AWp.region ?_
      obtain ⟨⟨r16, r17, r18⟩, e15, h⟩ := bindS h
      refine AOps.cc hT hA {} (by (repeat (cbv; simp only [c8])); first | done | cbv) (lb rfl) (H52w hA e15) rfl (.inl rfl) rfl rfl rfl (lb rfl) rfl rfl ?_
      refine AOps.cd hT hA {} (by (repeat (cbv; simp only [c8])); first | done | cbv) (lb rfl) ?_
      refine nT ?_
      refine AWp.seq ?_
      obtain ⟨v24, hvK25, h⟩ := bindS h
      refine AWp.cutN [4] [] 0 (lb rfl) (fun τ => τ = { env := [(4, (.d (.bool v24)))], heap := [], n := 49 }) ?_ ?_
      · skip
        refine AWp.region ?_
        rcases tf (A.beq r12 r16) with c19 | c19
        · replace hvK25 := cT c19 hvK25
          rcases tf (A.beq r13 r17) with c20 | c20
          · replace hvK25 := cT c20 hvK25
            rcases tf (A.zeq r14 r18) with c21 | c21
            · replace hvK25 := cT c21 hvK25
              obtain ⟨r23, e22, hvK25⟩ := bindS hvK25
              refine AOps.cc hT hA { tk := [48] } (by (repeat (cbv; simp only [c8, c19, c20, c21])); first | done | cbv) (lb rfl) (H19w hA e22) rfl (.inl rfl) rfl rfl rfl (lb rfl) rfl rfl ?_
              refine AOps.cd hT hA { tk := [48] } (by (repeat (cbv; simp only [c8, c19, c20, c21])); first | done | cbv) (lb rfl) ?_
              cases soI hvK25
              exact oNi ⟨rfl, (by first | cbv | ((repeat (cbv; simp only [c8, c19, c20, c21])); first | done | cbv))⟩
            · replace hvK25 := cF c21 hvK25
              refine AOps.cd hT hA { tk := [48] } (by (repeat (cbv; simp only [c8, c19, c20, c21])); first | done | cbv) (lb rfl) ?_
              cases soI hvK25
              exact oNi ⟨rfl, (by first | cbv | ((repeat (cbv; simp only [c8, c19, c20, c21])); first | done | cbv))⟩
          · replace hvK25 := cF c20 hvK25
            refine AOps.cd hT hA { tk := [48] } (by (repeat (cbv; simp only [c8, c19, c20])); first | done | cbv) (lb rfl) ?_
            cases soI hvK25
            exact oNi ⟨rfl, (by first | cbv | ((repeat (cbv; simp only [c8, c19, c20])); first | done | cbv))⟩
        · replace hvK25 := cF c19 hvK25
          refine AOps.cd hT hA { tk := [48] } (by (repeat (cbv; simp only [c8, c19])); first | done | cbv) (lb rfl) ?_
          cases soI hvK25
          exact oNi ⟨rfl, (by first | cbv | ((repeat (cbv; simp only [c8, c19])); first | done | cbv))⟩
      · rintro _ rfl
        refine nT ?_
        refine AWp.ret ?_
        cases soI h
        exact ⟨rfl, rfl, rfl, lb rfl, _, rfl⟩

theorem H53w {A : Ar} (hA : A = Ar.std) {x1 : List D} {x2 : List D} {x3 : List D} {v12 : Bool} {v13 : Int} (h : H53 A x1 x2 x3 = some (v12, v13)) : ACall Try.prog 53 [(.d (.list 4 x1)), (.d (.list 6 x2)), (.d (.list 1 x3))] [] (.tuple [(.d (.bool v12)), (.d (.int .i64 v13))]) [] := by
  unfold H53 at h
  refine ACall.enter hT (fn := Try.f53) Try.func53 rfl (by decide) (by simp [Try.f53]) rfl rfl rfl rfl (lb rfl) ?_
  refine AWp.seq ?_
  refine AWp.rg hT hA {} (by cbv) (lb rfl) ?_
  refine nT ?_
  refine AWp.seq ?_
  refine AWp.seq ?_
  refine AWp.region ?_
  obtain ⟨r5, e4, h⟩ := bindS h
  refine AOps.cc hT hA {} (by cbv) (lb rfl) (H71w hA e4) rfl (.inl rfl) rfl rfl rfl (lb rfl) rfl rfl ?_
  refine AOps.cd hT hA {} (by cbv) (lb rfl) ?_
  refine nT ?_
  refine AWp.block ?_
  refine AWp.seq ?_
  refine AWp.rg hT hA {} (by cbv) (lb rfl) ?_
  refine nT ?_
  rcases tf (A.zeq r5 0) with c6 | c6
  · replace h := cT c6 h
    refine AWp.cdF rfl (by first | rfl | simp only [c6, Bool.not_true, Bool.not_false, cond_true, cond_false]) ?_
    refine AWp.seq ?_
    refine AWp.region ?_
    obtain ⟨r8, e7, h⟩ := bindS h
    refine AOps.cc hT hA {} (by (repeat (cbv; simp only [c6])); first | done | cbv) (lb rfl) (H99w hA e7) rfl (.inl rfl) rfl rfl rfl (lb rfl) rfl rfl ?_
    refine AOps.cd hT hA {} (by (repeat (cbv; simp only [c6])); first | done | cbv) (lb rfl) ?_
    refine nT ?_
    rcases tf r8 with c9 | c9
    · replace h := cT c9 h
      refine AWp.cdF rfl (by first | rfl | simp only [c6, c9, Bool.not_true, Bool.not_false, cond_true, cond_false]) ?_
      refine AWp.skip ?_
      refine nB ?_
      refine nT ?_
      refine AWp.seq ?_
      refine AWp.region ?_
      obtain ⟨r11, e10, h⟩ := bindS h
      refine AOps.cc hT hA {} (by (repeat (cbv; simp only [c6, c9])); first | done | cbv) (lb rfl) (H101w hA e10) rfl (.inl rfl) rfl rfl rfl (lb rfl) rfl rfl ?_
      refine AOps.cd hT hA {} (by (repeat (cbv; simp only [c6, c9])); first | done | cbv) (lb rfl) ?_
      refine nT ?_
      refine AWp.ret ?_
      cases soI h
      exact ⟨rfl, rfl, rfl, lb rfl, _, rfl⟩
    · replace h := cF c9 h
      refine AWp.cdT rfl (by first | rfl | simp only [c6, c9, Bool.not_true, Bool.not_false, cond_true, cond_false]) ?_
      refine AWp.seq ?_
      refine AWp.rg hT hA {} (by (repeat (cbv; simp only [c6, c9])); first | done | cbv) (lb rfl) ?_
      refine nT ?_
      refine AWp.ret ?_
      refine rB ?_
      refine rT ?_
      cases soI h
      exact ⟨rfl, rfl, rfl, lb rfl, _, rfl⟩
  · replace h := cF c6 h
    refine AWp.cdT rfl (by first | rfl | simp only [c6, Bool.not_true, Bool.not_false, cond_true, cond_false]) ?_
    refine AWp.seq ?_
    refine AWp.rg hT hA {} (by (repeat (cbv; simp only [c6])); first | done | cbv) (lb rfl) ?_
    refine nT ?_
    refine AWp.ret ?_
    refine rB ?_
    refine rT ?_
    cases soI h
    exact ⟨rfl, rfl, rfl, lb rfl, _, rfl⟩

theorem H54w {A : Ar} (hA : A = Ar.std) {x1 : List D} {x2 : List D} {x3 : List D} {v17 : Bool} {v18 : Int} (h : H54 A x1 x2 x3 = some (v17, v18)) : ACall Try.prog 54 [(.d (.list 4 x1)), (.d (.list 6 x2)), (.d (.list 1 x3))] [] (.tuple [(.d (.bool v17)), (.d (.int .i64 v18))]) [] := by
  unfold H54 at h
  refine ACall.enter hT (fn := Try.f54) Try.func54 rfl (by decide) (by simp [Try.f54]) rfl rfl rfl rfl (lb rfl) ?_
  refine AWp.seq ?_
  refine AWp.rg hT hA {} (by cbv) (lb rfl) ?_
  refine nT ?_
  refine AWp.seq ?_
  refine AWp.region ?_
  obtain ⟨r5, e4, h⟩ := bindS h
  refine AOps.cc hT hA {} (by cbv) (lb rfl) (H75w hA e4) rfl (.inl rfl) rfl rfl rfl (lb rfl) rfl rfl ?_
  refine AOps.cd hT hA {} (by cbv) (lb rfl) ?_
  refine nT ?_
  refine AWp.seq ?_
  refine AWp.seq ?_
  obtain ⟨v9, hvK10, h⟩ := bindS h
  refine AWp.cutN [0, 1, 2, 8, 19] [] 0 (lb rfl) (fun τ => τ = { env := [(0, (.d (.list 4 x1))), (1, (.d (.list 6 x2))), (2, (.d (.list 1 x3))), (8, (.d (.int .i64 r5))), (19, (.d (.bool v9)))], heap := [], n := 27 }) ?_ ?_
  · skip
    refine AWp.region ?_
    rcases tf (A.zeq r5 0) with c6 | c6
    · replace hvK10 := cT c6 hvK10
      obtain ⟨r8, e7, hvK10⟩ := bindS hvK10
      refine AOps.cc hT hA {} (by (repeat (cbv; simp only [c6])); first | done | cbv) (lb rfl) (H93aw hA e7) rfl (.inl rfl) rfl rfl rfl (lb rfl) rfl rfl ?_
      refine AOps.cd hT hA {} (by (repeat (cbv; simp only [c6])); first | done | cbv) (lb rfl) ?_
      cases soI hvK10
      exact oNi ⟨rfl, (by first | cbv | ((repeat (cbv; simp only [c6])); first | done | cbv))⟩
    · replace hvK10 := cF c6 hvK10
      refine AOps.cd hT hA {} (by (repeat (cbv; simp only [c6])); first | done | cbv) (lb rfl) ?_
      cases soI hvK10
      exact oNi ⟨rfl, (by first | cbv | ((repeat (cbv; simp only [c6])); first | done | cbv))⟩
  · rintro _ rfl
    refine nT ?_
    obtain ⟨v12, hvK13, h⟩ := bindS h
    refine AWp.cutN [0, 1, 2, 8] [] 0 (lb rfl) (fun τ => τ = { env := [(0, (.d (.list 4 x1))), (1, (.d (.list 6 x2))), (2, (.d (.list 1 x3))), (8, (.d (.int .i64 v12)))], heap := [], n := 27 }) ?_ ?_
    · skip
      rcases tf v9 with c11 | c11
      · replace hvK13 := cT c11 hvK13
        refine AWp.cdT rfl (by first | rfl | simp only [c11, Bool.not_true, Bool.not_false, cond_true, cond_false]) ?_
        refine AWp.rg hT hA {} (by (repeat (cbv; simp only [c11])); first | done | cbv) (lb rfl) ?_
        cases soI hvK13
        exact oNi ⟨rfl, (by first | cbv | ((repeat (cbv; simp only [c11])); first | done | cbv))⟩
      · replace hvK13 := cF c11 hvK13
        refine AWp.cdF rfl (by first | rfl | simp only [c11, Bool.not_true, Bool.not_false, cond_true, cond_false]) ?_
        refine AWp.skip ?_
        cases soI hvK13
        exact oNi ⟨rfl, (by first | cbv | ((repeat (cbv; simp only [c11])); first | done | cbv))⟩
    · rintro _ rfl
      refine nT ?_
      refine AWp.seq ?_
      refine AWp.seq ?_
      refine AWp.rg hT hA {} (by cbv) (lb rfl) ?_
      refine nT ?_
      rcases tf (A.zeq v12 0) with c14 | c14
      · replace h := cT c14 h
        refine AWp.cdF rfl (by first | rfl | simp only [c14, Bool.not_true, Bool.not_false, cond_true, cond_false]) ?_
        refine AWp.skip ?_
        refine nT ?_
        refine AWp.seq ?_
        refine AWp.region ?_
        obtain ⟨r16, e15, h⟩ := bindS h
        refine AOps.cc hT hA {} (by (repeat (cbv; simp only [c14])); first | done | cbv) (lb rfl) (H95aw hA e15) rfl (.inl rfl) rfl rfl rfl (lb rfl) rfl rfl ?_
        refine AOps.cd hT hA {} (by (repeat (cbv; simp only [c14])); first | done | cbv) (lb rfl) ?_
        refine nT ?_
        refine AWp.ret ?_
        cases soI h
        exact ⟨rfl, rfl, rfl, lb rfl, _, rfl⟩
      · replace h := cF c14 h
        refine AWp.cdT rfl (by first | rfl | simp only [c14, Bool.not_true, Bool.not_false, cond_true, cond_false]) ?_
        refine AWp.seq ?_
        refine AWp.rg hT hA {} (by (repeat (cbv; simp only [c14])); first | done | cbv) (lb rfl) ?_
        refine nT ?_
        refine AWp.ret ?_
        refine rT ?_
        cases soI h
        exact ⟨rfl, rfl, rfl, lb rfl, _, rfl⟩

theorem H14w {A : Ar} (hA : A = Ar.std) {x1 : List D} {x2 : List D} {x3 : List D} {v47 : Bool} (h : H14 A x1 x2 x3 = some v47) : ACall Try.prog 14 [(.d (.list 4 x1)), (.d (.list 6 x2)), (.d (.list 1 x3))] [] (.d (.bool v47)) [] := by
  unfold H14 at h
  refine ACall.enter hT (fn := Try.f14) Try.func14 rfl (by decide) (by simp [Try.f14]) rfl rfl rfl rfl (lb rfl) ?_
  refine AWp.seq ?_
  refine AWp.rg hT hA {} (by cbv) (lb rfl) ?_
  refine nT ?_
  refine AWp.seq ?_
  refine AWp.seq ?_
  obtain ⟨v10, hvK11, h⟩ := bindS h
  refine AWp.cutN [0, 1, 2, 27] [] 0 (lb rfl) (fun τ => τ = { env := [(0, (.d (.list 4 x1))), (1, (.d (.list 6 x2))), (2, (.d (.list 1 x3))), (27, (.d (.bool v10)))], heap := [], n := 98 }) ?_ ?_
  · skip
    refine AWp.region ?_
    obtain ⟨r5, e4, hvK11⟩ := bindS hvK11
    refine AOps.cc hT hA {} (by cbv) (lb rfl) (H17w hA e4) rfl (.inl rfl) rfl rfl rfl (lb rfl) rfl rfl ?_
    rcases tf r5 with c6 | c6
    · replace hvK11 := cT c6 hvK11
      refine AOps.cd hT hA {} (by (repeat (cbv; simp only [c6])); first | done | cbv) (lb rfl) ?_
      cases soI hvK11
      exact oNi ⟨rfl, (by first | cbv | ((repeat (cbv; simp only [c6])); first | done | cbv))⟩
    · replace hvK11 := cF c6 hvK11
      obtain ⟨r8, e7, hvK11⟩ := bindS hvK11
      refine AOps.cc hT hA {} (by (repeat (cbv; simp only [c6])); first | done | cbv) (lb rfl) (H18w hA e7) rfl (.inl rfl) rfl rfl rfl (lb rfl) rfl rfl ?_
      rcases tf r8 with c9 | c9
      · replace hvK11 := cT c9 hvK11
        refine AOps.cd hT hA {} (by (repeat (cbv; simp only [c6, c9])); first | done | cbv) (lb rfl) ?_
        cases soI hvK11
        exact oNi ⟨rfl, (by first | cbv | ((repeat (cbv; simp only [c6, c9])); first | done | cbv))⟩
      · replace hvK11 := cF c9 hvK11
        refine AOps.cd hT hA {} (by (repeat (cbv; simp only [c6, c9])); first | done | cbv) (lb rfl) ?_
        cases soI hvK11
        exact oNi ⟨rfl, (by first | cbv | ((repeat (cbv; simp only [c6, c9])); first | done | cbv))⟩
  · rintro _ rfl
    refine nT ?_
    rcases tf v10 with c12 | c12
    · replace h := cT c12 h
      refine AWp.cdT rfl (by first | rfl | simp only [c12, Bool.not_true, Bool.not_false, cond_true, cond_false]) ?_
      refine AWp.seq ?_
      refine AWp.region ?_
      obtain ⟨r14, e13, h⟩ := bindS h
      refine AOps.cc hT hA { tk := [28] } (by (repeat (cbv; simp only [c12])); first | done | cbv) (lb rfl) (H19w hA e13) rfl (.inl rfl) rfl rfl rfl (lb rfl) rfl rfl ?_
      refine AOps.cd hT hA { tk := [28] } (by (repeat (cbv; simp only [c12])); first | done | cbv) (lb rfl) ?_
      refine nT ?_
      refine AWp.ret ?_
      refine rT ?_
      cases soI h
      exact ⟨rfl, rfl, rfl, lb rfl, _, rfl⟩
    · replace h := cF c12 h
      refine AWp.cdF rfl (by first | rfl | simp only [c12, Bool.not_true, Bool.not_false, cond_true, cond_false]) ?_
      refine AWp.skip ?_
      refine nT ?_
      refine AWp.seq ?_
      refine AWp.region ?_
      obtain ⟨⟨r16, r17⟩, e15, h⟩ := bindS h
      refine AOps.cc hT hA {} (by (repeat (cbv; simp only [c12])); first | done | cbv) (lb rfl) (H46w hA e15) rfl (.inl rfl) rfl rfl rfl (lb rfl) rfl rfl ?_
      refine AOps.cd hT hA {} (by (repeat (cbv; simp only [c12])); first | done | cbv) (lb rfl) ?_
      refine nT ?_
      refine AWp.seq ?_
      refine AWp.region ?_
      obtain ⟨⟨r19, r20⟩, e18, h⟩ := bindS h
      refine AOps.cc hT hA {} (by (repeat (cbv; simp only [c12])); first | done | cbv) (lb rfl) (H44w hA e18) rfl (.inl rfl) rfl rfl rfl (lb rfl) rfl rfl ?_
      refine AOps.cd hT hA {} (by (repeat (cbv; simp only [c12])); first | done | cbv) (lb rfl) ?_
      refine nT ?_
      refine AWp.seq ?_
      refine AWp.region ?_
      obtain ⟨⟨r22, r23⟩, e21, h⟩ := bindS h
      refine AOps.cc hT hA {} (by (repeat (cbv; simp only [c12])); first | done | cbv) (lb rfl) (H53w hA e21) rfl (.inl rfl) rfl rfl rfl (lb rfl) rfl rfl ?_
      refine AOps.cd hT hA {} (by (repeat (cbv; simp only [c12])); first | done | cbv) (lb rfl) ?_
      refine nT ?_
      refine AWp.seq ?_
      refine AWp.region ?_
      obtain ⟨⟨r25, r26⟩, e24, h⟩ := bindS h
      refine AOps.cc hT hA {} (by (repeat (cbv; simp only [c12])); first | done | cbv) (lb rfl) (H54w hA e24) rfl (.inl rfl) rfl rfl rfl (lb rfl) rfl rfl ?_
      refine AOps.cd hT hA {} (by (repeat (cbv; simp only [c12])); first | done | cbv) (lb rfl) ?_
      refine nT ?_
      refine AWp.seq ?_
      refine AWp.seq ?_
      obtain ⟨v30, hvK31, h⟩ := bindS h
      refine AWp.cutN [0, 1, 74] [] 0 (lb rfl) (fun τ => τ = { env := [(0, (.d (.list 4 x1))), (1, (.d (.list 6 x2))), (74, (.d (.bool v30)))], heap := [], n := 98 }) ?_ ?_
      · skip
        rcases tf (A.beq r16 r19) with c27 | c27
        · replace hvK31 := cT c27 hvK31
          rcases tf (A.zeq r17 r20) with c28 | c28
          · replace hvK31 := cT c28 hvK31
            rcases tf (A.beq r22 r25) with c29 | c29
            · replace hvK31 := cT c29 hvK31
              refine AWp.rg hT hA {} (by (repeat (cbv; simp only [c12, c27, c28, c29])); first | done | cbv) (lb rfl) ?_
              cases soI hvK31
              exact oNi ⟨rfl, (by first | cbv | ((repeat (cbv; simp only [c12, c27, c28, c29])); first | done | cbv))⟩
            · replace hvK31 := cF c29 hvK31
              refine AWp.rg hT hA {} (by (repeat (cbv; simp only [c12, c27, c28, c29])); first | done | cbv) (lb rfl) ?_
              cases soI hvK31
              exact oNi ⟨rfl, (by first | cbv | ((repeat (cbv; simp only [c12, c27, c28, c29])); first | done | cbv))⟩
          · replace hvK31 := cF c28 hvK31
            refine AWp.rg hT hA {} (by (repeat (cbv; simp only [c12, c27, c28])); first | done | cbv) (lb rfl) ?_
            cases soI hvK31
            exact oNi ⟨rfl, (by first | cbv | ((repeat (cbv; simp only [c12, c27, c28])); first | done | cbv))⟩
        · replace hvK31 := cF c27 hvK31
          refine AWp.rg hT hA {} (by (repeat (cbv; simp only [c12, c27])); first | done | cbv) (lb rfl) ?_
          cases soI hvK31
          exact oNi ⟨rfl, (by first | cbv | ((repeat (cbv; simp only [c12, c27])); first | done | cbv))⟩
      · rintro _ rfl
        refine nT ?_
        rcases tf v30 with c32 | c32
        · replace h := cT c32 h
          refine AWp.cdT rfl (by first | rfl | simp only [c32, Bool.not_true, Bool.not_false, cond_true, cond_false]) ?_
          refine AWp.seq ?_
          refine AWp.rg hT hA {} (by (repeat (cbv; simp only [c32])); first | done | cbv) (lb rfl) ?_
          refine nT ?_
          refine AWp.ret ?_
          refine rT ?_
          cases soI h
          exact ⟨rfl, rfl, rfl, lb rfl, _, rfl⟩
        · replace h := cF c32 h
          refine AWp.cdF rfl (by first | rfl | simp only [c32, Bool.not_true, Bool.not_false, cond_true, cond_false]) ?_
          refine AWp.skip ?_
          refine nT ?_
          refine AWp.seq ?_
          refine AWp.region ?_
          obtain ⟨⟨r34, r35⟩, e33, h⟩ := bindS h
          refine AOps.cc hT hA {} (by (repeat (cbv; simp only [c32])); first | done | cbv) (lb rfl) (H43w hA e33) rfl (.inl rfl) rfl rfl rfl (lb rfl) rfl rfl ?_
          refine AOps.cd hT hA {} (by (repeat (cbv; simp only [c32])); first | done | cbv) (lb rfl) ?_
          refine nT ?_
          refine AWp.seq ?_
          refine AWp.region ?_
          obtain ⟨⟨r37, r38⟩, e36, h⟩ := bindS h
          refine AOps.cc hT hA {} (by (repeat (cbv; simp only [c32])); first | done | cbv) (lb rfl) (H55w hA e36) rfl (.inl rfl) rfl rfl rfl (lb rfl) rfl rfl ?_
          refine AOps.cd hT hA {} (by (repeat (cbv; simp only [c32])); first | done | cbv) (lb rfl) ?_
          refine nT ?_
          refine AWp.seq ?_
          obtain ⟨v45, hvK46, h⟩ := bindS h
          refine AWp.cutN [6] [] 0 (lb rfl) (fun τ => τ = { env := [(6, (.d (.bool v45)))], heap := [], n := 98 }) ?_ ?_
          · skip
            refine AWp.region ?_
            obtain ⟨r40, e39, hvK46⟩ := bindS hvK46
            refine AOps.cc hT hA { tk := [97] } (by (repeat (cbv; simp only [c32])); first | done | cbv) (lb rfl) (H56w hA e39) rfl (.inl rfl) rfl rfl rfl (lb rfl) rfl rfl ?_
            rcases tf r40 with c41 | c41
            · replace hvK46 := cT c41 hvK46
              rcases tf (A.zeq r35 r38) with c42 | c42
              · replace hvK46 := cT c42 hvK46
                obtain ⟨r44, e43, hvK46⟩ := bindS hvK46
                refine AOps.cc hT hA { tk := [97] } (by (repeat (cbv; simp only [c32, c41, c42])); first | done | cbv) (lb rfl) (H19w hA e43) rfl (.inl rfl) rfl rfl rfl (lb rfl) rfl rfl ?_
                refine AOps.cd hT hA { tk := [97] } (by (repeat (cbv; simp only [c32, c41, c42])); first | done | cbv) (lb rfl) ?_
                cases soI hvK46
                exact oNi ⟨rfl, (by first | cbv | ((repeat (cbv; simp only [c32, c41, c42])); first | done | cbv))⟩
              · replace hvK46 := cF c42 hvK46
                refine AOps.cd hT hA { tk := [97] } (by (repeat (cbv; simp only [c32, c41, c42])); first | done | cbv) (lb rfl) ?_
                cases soI hvK46
                exact oNi ⟨rfl, (by first | cbv | ((repeat (cbv; simp only [c32, c41, c42])); first | done | cbv))⟩
            · replace hvK46 := cF c41 hvK46
              refine AOps.cd hT hA { tk := [97] } (by (repeat (cbv; simp only [c32, c41])); first | done | cbv) (lb rfl) ?_
              cases soI hvK46
              exact oNi ⟨rfl, (by first | cbv | ((repeat (cbv; simp only [c32, c41])); first | done | cbv))⟩
          · rintro _ rfl
            refine nT ?_
            refine AWp.ret ?_
            cases soI h
            exact ⟨rfl, rfl, rfl, lb rfl, _, rfl⟩
end Go.Am
