/- Own text: Genw0. -/
import Derived.Test.YtlpolnmadfmphaaGenp0
import Derived.Test.YtlpolnmadfmphaaAmFrz
import Derived.Test.YtlpolnmadfmphaaH1T
set_option maxRecDepth 100000
set_option maxHeartbeats 2000000
set_option linter.unusedVariables false
set_option linter.unusedSimpArgs false
namespace Go.Am
open Go Go.Proofs
noncomputable def HA74r0 : Code := cAt (Try.f74.body.getD .skip) [1, 1, 1, 1, 0, 1, 0, 0]

noncomputable def HB74r0 : Code := cAt (Try.f74.body.getD .skip) [1, 1, 1, 1, 0, 1, 0, 1]

noncomputable def HA92r0 : Code := cAt (Try.f92.body.getD .skip) [1, 1, 1, 0, 0, 0, 1, 0, 1, 0, 0]

noncomputable def HB92r0 : Code := cAt (Try.f92.body.getD .skip) [1, 1, 1, 0, 0, 0, 1, 0, 1, 0, 1]

theorem H17w {A : Ar} (hA : A = Ar.std) {x1 : List D} {v84 : Bool} (h : H17 A x1 = some v84) : ACall Try.prog 17 [(.d (.list 4 x1))] [] (.d (.bool v84)) [] := by
  unfold H17 at h
  refine ACall.enter hT (fn := Try.f17) Try.func17 rfl (by decide) (by simp [Try.f17]) rfl rfl rfl rfl (lb rfl) ?_
  refine AWp.seq ?_
  refine AWp.rg hT hA {} (by cbv) (lb rfl) ?_
  refine nT ?_
  refine AWp.seq ?_
  refine AWp.seq ?_
  refine AWp.rg hT hA {} (by cbv) (lb rfl) ?_
  refine nT ?_
  refine AWp.block ?_
  obtain ⟨xK83, hxK83, K83, hK83, hkK83⟩ := bindK h
  refine AWp.cutX 0 [0] [] 0 (lb rfl) (fun τ => K83 (.inl ()) = some v84 ∧ τ = { env := [(0, (.d (.list 4 x1)))], heap := [], n := 58 }) ?_ ?_
  · skip
    refine AWp.iter hxK83 [0, 3] [] 0 (lb rfl) (fun v42 => { env := [(0, (.d (.list 4 x1))), (3, (.d (.int .i64 v42)))], heap := [], n := 58 }) ⟨rfl, (by cbv)⟩ ?_
    rintro v42 eK83 hsK83
    dsimp only [H17L2] at hsK83
    refine AWp.seq ?_
    refine AWp.seq ?_
    refine AWp.rg hT hA {} (by cbv) (lb rfl) ?_
    refine nT ?_
    rcases tf (A.zlt v42 (A.len x1)) with c43 | c43
    · replace hsK83 := cT c43 hsK83
      refine AWp.cdT rfl (by first | rfl | simp only [c43, Bool.not_true, Bool.not_false, cond_true, cond_false]) ?_
      refine AWp.skip ?_
      refine nT ?_
      refine AWp.seq ?_
      refine AWp.block ?_
      refine AWp.seq ?_
      obtain ⟨⟨a44, a45, a46, a47⟩, e48, hsK83⟩ := bindS hsK83
      obtain ⟨f49, f50⟩ := gtI e48
      refine AWp.rg hT hA { tk := [16] } (by (repeat (cbv; simp only [c43, f49, f50])); first | done | cbv) (lb rfl) ?_
      refine nT ?_
      refine AWp.seq ?_
      refine AWp.seq ?_
      obtain ⟨v52, hvK53, hsK83⟩ := bindS hsK83
      refine AWp.cutN [0, 3, 4, 26] [] 0 (lb rfl) (fun τ => τ = { env := [(0, (.d (.list 4 x1))), (3, (.d (.int .i64 v42))), (4, (.lbox [(.d (.int .i64 a44)), (.d (.int .i64 a45)), (.d (.list 1 a46)), (.d (.list 1 a47))])), (26, (.d (.bool v52)))], heap := [], n := 58 }) ?_ ?_
      · skip
        rcases tf (A.zlt 20 (A.len a46)) with c51 | c51
        · replace hvK53 := cT c51 hvK53
          refine AWp.rg hT hA {} (by (repeat (cbv; simp only [c43, c51])); first | done | cbv) (lb rfl) ?_
          cases soI hvK53
          exact oNi ⟨rfl, (by first | (cbv; done) | ((repeat (cbv; simp only [c43, c51])); first | done | cbv))⟩
        · replace hvK53 := cF c51 hvK53
          refine AWp.rg hT hA {} (by (repeat (cbv; simp only [c43, c51])); first | done | cbv) (lb rfl) ?_
          cases soI hvK53
          exact oNi ⟨rfl, (by first | (cbv; done) | ((repeat (cbv; simp only [c43, c51])); first | done | cbv))⟩
      · rintro _ rfl
        refine nT ?_
        rcases tf v52 with c54 | c54
        · replace hsK83 := cT c54 hsK83
          refine AWp.cdT rfl (by first | rfl | simp only [c54, Bool.not_true, Bool.not_false, cond_true, cond_false]) ?_
          refine AWp.seq ?_
          refine AWp.rg hT hA {} (by (repeat (cbv; simp only [c54])); first | done | cbv) (lb rfl) ?_
          refine nT ?_
          refine AWp.ret ?_
          refine rT ?_
          refine rB ?_
          refine rT ?_
          refine rT ?_
          refine exL hsK83 fun hx => ?_
          subst hx
          refine oxR ?_
          replace hkK83 := (eR (hK83 _ hkK83))
          refine rB ?_
          refine rT ?_
          cases soI hkK83
          exact ⟨rfl, rfl, rfl, lb rfl, _, rfl⟩
        · replace hsK83 := cF c54 hsK83
          refine AWp.cdF rfl (by first | rfl | simp only [c54, Bool.not_true, Bool.not_false, cond_true, cond_false]) ?_
          refine AWp.skip ?_
          refine nT ?_
          refine AWp.seq ?_
          refine AWp.seq ?_
          refine AWp.rg hT hA {} (by (repeat (cbv; simp only [c54])); first | done | cbv) (lb rfl) ?_
          refine nT ?_
          refine AWp.block ?_
          obtain ⟨xK68, hxK68, K68, hK68, hkK68⟩ := bindK hsK83
          refine AWp.cutX 2 [0, 3, 4] [] 0 (lb rfl) (fun τ => K68 (.inl ()) = some eK83 ∧ τ = { env := [(0, (.d (.list 4 x1))), (3, (.d (.int .i64 v42))), (4, (.lbox [(.d (.int .i64 a44)), (.d (.int .i64 a45)), (.d (.list 1 a46)), (.d (.list 1 a47))]))], heap := [], n := 58 }) ?_ ?_
          · skip
            refine AWp.iter hxK68 [0, 3, 4, 5] [] 0 (lb rfl) (fun v61 => { env := [(0, (.d (.list 4 x1))), (3, (.d (.int .i64 v42))), (4, (.lbox [(.d (.int .i64 a44)), (.d (.int .i64 a45)), (.d (.list 1 a46)), (.d (.list 1 a47))])), (5, (.d (.int .i64 v61)))], heap := [], n := 58 }) ⟨rfl, (by first | (cbv; done) | ((repeat (cbv; simp only [c54])); first | done | cbv))⟩ ?_
            rintro v61 eK68 hsK68
            dsimp only [H17L0] at hsK68
            refine AWp.seq ?_
            refine AWp.seq ?_
            refine AWp.rg hT hA {} (by cbv) (lb rfl) ?_
            refine nT ?_
            rcases tf (A.zlt v61 (A.len a46)) with c62 | c62
            · replace hsK68 := cT c62 hsK68
              refine AWp.cdT rfl (by first | rfl | simp only [c62, Bool.not_true, Bool.not_false, cond_true, cond_false]) ?_
              refine AWp.skip ?_
              refine nT ?_
              refine AWp.seq ?_
              refine AWp.block ?_
              refine AWp.seq ?_
              obtain ⟨a63, e64, hsK68⟩ := bindS hsK68
              obtain ⟨f65, f66⟩ := gtI e64
              refine AWp.rg hT hA {} (by (repeat (cbv; simp only [c62, f65, f66])); first | done | cbv) (lb rfl) ?_
              refine nT ?_
              rcases tf (A.zlt 20 (A.len a63)) with c67 | c67
              · replace hsK68 := cT c67 hsK68
                refine AWp.cdT rfl (by first | rfl | simp only [c62, c67, Bool.not_true, Bool.not_false, cond_true, cond_false]) ?_
                refine AWp.seq ?_
                refine AWp.rg hT hA {} (by (repeat (cbv; simp only [c62, c67])); first | done | cbv) (lb rfl) ?_
                refine nT ?_
                refine AWp.ret ?_
                refine rB ?_
                refine rT ?_
                refine rT ?_
                refine exL hsK68 fun hx => ?_
                subst hx
                refine oxR ?_
                replace hkK68 := (eR (hK68 _ hkK68))
                refine rB ?_
                refine rT ?_
                refine rB ?_
                refine rT ?_
                refine rT ?_
                refine exL hkK68 fun hx => ?_
                subst hx
                refine oxR ?_
                replace hkK83 := (eR (hK83 _ hkK83))
                refine rB ?_
                refine rT ?_
                cases soI hkK83
                exact ⟨rfl, rfl, rfl, lb rfl, _, rfl⟩
              · replace hsK68 := cF c67 hsK68
                refine AWp.cdF rfl (by first | rfl | simp only [c62, c67, Bool.not_true, Bool.not_false, cond_true, cond_false]) ?_
                refine AWp.skip ?_
                refine nB ?_
                refine nT ?_
                refine AWp.rg hT hA {} (by (repeat (cbv; simp only [c62, c67])); first | done | cbv) (lb rfl) ?_
                exact nT ⟨_, (soI hsK68).symm, rfl, (by first | (cbv; done) | ((repeat (cbv; simp only [c62, c67])); first | done | cbv))⟩
            · replace hsK68 := cF c62 hsK68
              refine AWp.cdF rfl (by first | rfl | simp only [c62, Bool.not_true, Bool.not_false, cond_true, cond_false]) ?_
              refine AWp.exit ?_
              refine xT ?_
              refine xT ?_
              refine exL hsK68 fun hx => ?_
              subst hx
              exact oxI ⟨rfl, hkK68, (by first | (cbv; done) | ((repeat (cbv; simp only [c62])); first | done | cbv))⟩
          · rintro _ ⟨hkK68, rfl⟩
            have hsK83 := (eL (hK68 _ hkK68))
            refine xB ?_
            refine nT ?_
            refine AWp.seq ?_
            refine AWp.rg hT hA {} (by cbv) (lb rfl) ?_
            refine nT ?_
            refine AWp.block ?_
            obtain ⟨xK82, hxK82, K82, hK82, hkK82⟩ := bindK hsK83
            refine AWp.cutX 4 [0, 3] [] 0 (lb rfl) (fun τ => K82 (.inl ()) = some eK83 ∧ τ = { env := [(0, (.d (.list 4 x1))), (3, (.d (.int .i64 v42)))], heap := [], n := 58 }) ?_ ?_
            · skip
              refine AWp.iter hxK82 [0, 3, 4, 6] [] 0 (lb rfl) (fun v75 => { env := [(0, (.d (.list 4 x1))), (3, (.d (.int .i64 v42))), (4, (.lbox [(.d (.int .i64 a44)), (.d (.int .i64 a45)), (.d (.list 1 a46)), (.d (.list 1 a47))])), (6, (.d (.int .i64 v75)))], heap := [], n := 58 }) ⟨rfl, (by cbv)⟩ ?_
              rintro v75 eK82 hsK82
              dsimp only [H17L1] at hsK82
              refine AWp.seq ?_
              refine AWp.seq ?_
              refine AWp.rg hT hA {} (by cbv) (lb rfl) ?_
              refine nT ?_
              rcases tf (A.zlt v75 (A.len a47)) with c76 | c76
              · replace hsK82 := cT c76 hsK82
                refine AWp.cdT rfl (by first | rfl | simp only [c76, Bool.not_true, Bool.not_false, cond_true, cond_false]) ?_
                refine AWp.skip ?_
                refine nT ?_
                refine AWp.seq ?_
                refine AWp.block ?_
                refine AWp.seq ?_
                obtain ⟨a77, e78, hsK82⟩ := bindS hsK82
                obtain ⟨f79, f80⟩ := gtI e78
                refine AWp.rg hT hA {} (by (repeat (cbv; simp only [c76, f79, f80])); first | done | cbv) (lb rfl) ?_
                refine nT ?_
                rcases tf (A.zlt 20 (A.len a77)) with c81 | c81
                · replace hsK82 := cT c81 hsK82
                  refine AWp.cdT rfl (by first | rfl | simp only [c76, c81, Bool.not_true, Bool.not_false, cond_true, cond_false]) ?_
                  refine AWp.seq ?_
                  refine AWp.rg hT hA {} (by (repeat (cbv; simp only [c76, c81])); first | done | cbv) (lb rfl) ?_
                  refine nT ?_
                  refine AWp.ret ?_
                  refine rB ?_
                  refine rT ?_
                  refine rT ?_
                  refine exL hsK82 fun hx => ?_
                  subst hx
                  refine oxR ?_
                  replace hkK82 := (eR (hK82 _ hkK82))
                  refine rB ?_
                  refine rB ?_
                  refine rT ?_
                  refine rT ?_
                  refine exL hkK82 fun hx => ?_
                  subst hx
                  refine oxR ?_
                  replace hkK83 := (eR (hK83 _ hkK83))
                  refine rB ?_
                  refine rT ?_
                  cases soI hkK83
                  exact ⟨rfl, rfl, rfl, lb rfl, _, rfl⟩
                · replace hsK82 := cF c81 hsK82
                  refine AWp.cdF rfl (by first | rfl | simp only [c76, c81, Bool.not_true, Bool.not_false, cond_true, cond_false]) ?_
                  refine AWp.skip ?_
                  refine nB ?_
                  refine nT ?_
                  refine AWp.rg hT hA {} (by (repeat (cbv; simp only [c76, c81])); first | done | cbv) (lb rfl) ?_
                  exact nT ⟨_, (soI hsK82).symm, rfl, (by first | (cbv; done) | ((repeat (cbv; simp only [c76, c81])); first | done | cbv))⟩
              · replace hsK82 := cF c76 hsK82
                refine AWp.cdF rfl (by first | rfl | simp only [c76, Bool.not_true, Bool.not_false, cond_true, cond_false]) ?_
                refine AWp.exit ?_
                refine xT ?_
                refine xT ?_
                refine exL hsK82 fun hx => ?_
                subst hx
                exact oxI ⟨rfl, hkK82, (by first | (cbv; done) | ((repeat (cbv; simp only [c76])); first | done | cbv))⟩
            · rintro _ ⟨hkK82, rfl⟩
              have hsK83 := (eL (hK82 _ hkK82))
              refine xB ?_
              refine nB ?_
              refine nT ?_
              refine AWp.rg hT hA {} (by cbv) (lb rfl) ?_
              exact nT ⟨_, (soI hsK83).symm, rfl, (by cbv)⟩
    · replace hsK83 := cF c43 hsK83
      refine AWp.cdF rfl (by first | rfl | simp only [c43, Bool.not_true, Bool.not_false, cond_true, cond_false]) ?_
      refine AWp.exit ?_
      refine xT ?_
      refine xT ?_
      refine exL hsK83 fun hx => ?_
      subst hx
      exact oxI ⟨rfl, hkK83, (by first | (cbv; done) | ((repeat (cbv; simp only [c43])); first | done | cbv))⟩
  · rintro _ ⟨hkK83, rfl⟩
    have h := (eL (hK83 _ hkK83))
    refine xB ?_
    refine nT ?_
    refine AWp.seq ?_
    refine AWp.rg hT hA { tk := [57] } (by cbv) (lb rfl) ?_
    refine nT ?_
    refine AWp.ret ?_
    cases soI h
    exact ⟨rfl, rfl, rfl, lb rfl, _, rfl⟩

theorem H18w {A : Ar} (hA : A = Ar.std) {x1 : List D} {v2 : Bool} (h : H18 A x1 = some v2) : ACall Try.prog 18 [(.d (.list 6 x1))] [] (.d (.bool v2)) [] := by
  unfold H18 at h
  refine ACall.enter hT (fn := Try.f18) Try.func18 rfl (by decide) (by simp [Try.f18]) rfl rfl rfl rfl (lb rfl) ?_
  refine AWp.seq ?_
  refine AWp.rg hT hA {} (by cbv) (lb rfl) ?_
  refine nT ?_
  refine AWp.seq ?_
  refine AWp.rg hT hA { tk := [5] } (by cbv) (lb rfl) ?_
  refine nT ?_
  refine AWp.ret ?_
  cases soI h
  exact ⟨rfl, rfl, rfl, lb rfl, _, rfl⟩

theorem H77w {A : Ar} (hA : A = Ar.std) {x1 : Int} {x2 : Int} {x3 : Int} {v7 : Bool} (h : H77 A x1 x2 x3 = some v7) : ACall Try.prog 77 [(.d (.int .i64 x1)), (.d (.int .i64 x2)), (.d (.int .i64 x3))] [] (.d (.bool v7)) [] := by
  unfold H77 at h
  refine ACall.enter hT (fn := Try.f77) Try.func77 rfl (by decide) (by simp [Try.f77]) rfl rfl rfl rfl (lb rfl) ?_
  refine AWp.seq ?_
  refine AWp.rg hT hA {} (by cbv) (lb rfl) ?_
  refine nT ?_
  refine AWp.seq ?_
  obtain ⟨v5, hvK6, h⟩ := bindS h
  refine AWp.cutN [6] [] 0 (lb rfl) (fun τ => τ = { env := [(6, (.d (.bool v5)))], heap := [], n := 15 }) ?_ ?_
  · skip
    rcases tf (A.zle x1 x2) with c4 | c4
    · replace hvK6 := cT c4 hvK6
      refine AWp.rg hT hA { tk := [14] } (by (repeat (cbv; simp only [c4])); first | done | cbv) (lb rfl) ?_
      cases soI hvK6
      exact oNi ⟨rfl, (by first | (cbv; done) | ((repeat (cbv; simp only [c4])); first | done | cbv))⟩
    · replace hvK6 := cF c4 hvK6
      refine AWp.rg hT hA { tk := [14] } (by (repeat (cbv; simp only [c4])); first | done | cbv) (lb rfl) ?_
      cases soI hvK6
      exact oNi ⟨rfl, (by first | (cbv; done) | ((repeat (cbv; simp only [c4])); first | done | cbv))⟩
  · rintro _ rfl
    refine nT ?_
    refine AWp.ret ?_
    cases soI h
    exact ⟨rfl, rfl, rfl, lb rfl, _, rfl⟩

theorem H120w {A : Ar} (hA : A = Ar.std) {x1 : Int} {x2 : Int} {x3 : Int} {v7 : Bool} (h : H120 A x1 x2 x3 = some v7) : ACall Try.prog 120 [(.d (.int .i64 x1)), (.d (.int .i64 x2)), (.d (.int .i64 x3))] [] (.d (.bool v7)) [] := by
  unfold H120 at h
  refine ACall.enter hT (fn := Try.f120) Try.func120 rfl (by decide) (by simp [Try.f120]) rfl rfl rfl rfl (lb rfl) ?_
  refine AWp.seq ?_
  refine AWp.rg hT hA {} (by cbv) (lb rfl) ?_
  refine nT ?_
  refine AWp.seq ?_
  obtain ⟨v5, hvK6, h⟩ := bindS h
  refine AWp.cutN [6] [] 0 (lb rfl) (fun τ => τ = { env := [(6, (.d (.bool v5)))], heap := [], n := 15 }) ?_ ?_
  · skip
    rcases tf (A.zle x1 x2) with c4 | c4
    · replace hvK6 := cT c4 hvK6
      refine AWp.rg hT hA { tk := [14] } (by (repeat (cbv; simp only [c4])); first | done | cbv) (lb rfl) ?_
      cases soI hvK6
      exact oNi ⟨rfl, (by first | (cbv; done) | ((repeat (cbv; simp only [c4])); first | done | cbv))⟩
    · replace hvK6 := cF c4 hvK6
      refine AWp.rg hT hA { tk := [14] } (by (repeat (cbv; simp only [c4])); first | done | cbv) (lb rfl) ?_
      cases soI hvK6
      exact oNi ⟨rfl, (by first | (cbv; done) | ((repeat (cbv; simp only [c4])); first | done | cbv))⟩
  · rintro _ rfl
    refine nT ?_
    refine AWp.ret ?_
    cases soI h
    exact ⟨rfl, rfl, rfl, lb rfl, _, rfl⟩

theorem H129w {A : Ar} (hA : A = Ar.std) {x1 : Int} {x2 : Int} {x3 : Int} {x4 : List D} {x5 : List D} {x6 : Int} {v9 : Bool} (h : H129 A x1 x2 x3 x4 x5 x6 = some v9) : ACall Try.prog 129 [(.d (.int .i64 x1)), (.ptr 1 0)] [(.cells [(.d (.int .i64 x2)), (.d (.int .i64 x3)), (.d (.list 1 x4)), (.d (.list 1 x5))]), (.cells [(.d (.int .i64 x6))])] (.d (.bool v9)) [(.cells [(.d (.int .i64 x2)), (.d (.int .i64 x3)), (.d (.list 1 x4)), (.d (.list 1 x5))]), (.cells [(.d (.int .i64 x6))])] := by
  unfold H129 at h
  refine ACall.enter hT (fn := Try.f129) Try.func129 rfl (by decide) (by simp [Try.f129]) rfl rfl rfl rfl (lb rfl) ?_
  refine AWp.seq ?_
  refine AWp.rg hT hA {} (by cbv) (lb rfl) ?_
  refine nT ?_
  refine AWp.seq ?_
  refine AWp.region ?_
  obtain ⟨r8, e7, h⟩ := bindS h
  refine AOps.cc hT hA { tk := [7] } (by cbv) (lb rfl) (H120w hA e7) rfl (.inr rfl) rfl rfl rfl (lb rfl) rfl rfl ?_
  refine AOps.cd hT hA { tk := [7] } (by cbv) (lb rfl) ?_
  refine nT ?_
  refine AWp.ret ?_
  cases soI h
  exact ⟨rfl, rfl, rfl, lb rfl, _, rfl⟩

theorem H131w {A : Ar} (hA : A = Ar.std) {x1 : List D} {x2 : Int} {x3 : Int} {x4 : List D} {x5 : List D} {x6 : Int} {v26 : Int} (h : H131 A x1 x2 x3 x4 x5 x6 = some v26) : ACall Try.prog 131 [(.d (.list 1 x1)), (.func 129 [] [(.ptr 1 0)])] [(.cells [(.d (.int .i64 x2)), (.d (.int .i64 x3)), (.d (.list 1 x4)), (.d (.list 1 x5))]), (.cells [(.d (.int .i64 x6))])] (.d (.int .i64 v26)) [(.cells [(.d (.int .i64 x2)), (.d (.int .i64 x3)), (.d (.list 1 x4)), (.d (.list 1 x5))]), (.cells [(.d (.int .i64 x6))])] := by
  unfold H131 at h
  refine ACall.enter hT (fn := Try.f131) Try.func131 rfl (by decide) (by simp [Try.f131]) rfl rfl rfl rfl (lb rfl) ?_
  refine AWp.seq ?_
  refine AWp.rg hT hA {} (by cbv) (lb rfl) ?_
  refine nT ?_
  refine AWp.seq ?_
  refine AWp.seq ?_
  refine AWp.rg hT hA {} (by cbv) (lb rfl) ?_
  refine nT ?_
  refine AWp.block ?_
  obtain ⟨xK25, hxK25, K25, hK25, hkK25⟩ := bindK h
  refine AWp.cutX 0 [] [] 2 (lb rfl) (fun τ => K25 (.inl ()) = some v26 ∧ τ = { env := [], heap := [(.cells [(.d (.int .i64 x2)), (.d (.int .i64 x3)), (.d (.list 1 x4)), (.d (.list 1 x5))]), (.cells [(.d (.int .i64 x6))])], n := 19 }) ?_ ?_
  · skip
    refine AWp.iter hxK25 [0, 1, 7, 8] [] 2 (lb rfl) (fun v15 => { env := [(0, (.d (.list 1 x1))), (1, (.func 129 [] [(.ptr 1 0)])), (7, (.d (.int .i64 (A.len x1)))), (8, (.d (.int .i64 v15)))], heap := [(.cells [(.d (.int .i64 x2)), (.d (.int .i64 x3)), (.d (.list 1 x4)), (.d (.list 1 x5))]), (.cells [(.d (.int .i64 x6))])], n := 19 }) ⟨rfl, (by cbv)⟩ ?_
    rintro v15 eK25 hsK25
    dsimp only [H131L0] at hsK25
    refine AWp.seq ?_
    refine AWp.rg hT hA {} (by cbv) (lb rfl) ?_
    refine nT ?_
    refine AWp.seq ?_
    rcases tf (A.zlt v15 (A.len x1)) with c16 | c16
    · replace hsK25 := cT c16 hsK25
      refine AWp.cdT rfl (by first | rfl | simp only [c16, Bool.not_true, Bool.not_false, cond_true, cond_false]) ?_
      refine AWp.skip ?_
      refine nT ?_
      refine AWp.seq ?_
      refine AWp.block ?_
      refine AWp.seq ?_
      refine AWp.rg hT hA { tk := [8, 10] } (by (repeat (cbv; simp only [c16])); first | done | cbv) (lb rfl) ?_
      refine nT ?_
      refine AWp.seq ?_
      refine AWp.region ?_
      obtain ⟨a17, e18, hsK25⟩ := bindS hsK25
      obtain ⟨f19, f20⟩ := gtI e18
      obtain ⟨r22, e21, hsK25⟩ := bindS hsK25
      refine AOps.cc hT hA {} (by (repeat (cbv; simp only [c16, f19, f20])); first | done | cbv) (lb rfl) (H129w hA e21) rfl (.inl rfl) rfl rfl rfl (lb rfl) rfl rfl ?_
      refine AOps.cd hT hA {} (by (repeat (cbv; simp only [c16, f19, f20])); first | done | cbv) (lb rfl) ?_
      refine nT ?_
      rcases tf r22 with c23 | c23
      · replace hsK25 := cT c23 hsK25
        refine AWp.cdT rfl (by first | rfl | simp only [c16, c23, Bool.not_true, Bool.not_false, cond_true, cond_false]) ?_
        refine AWp.seq ?_
        refine AWp.rg hT hA { tk := [5, 17] } (by (repeat (cbv; simp only [c16, c23])); first | done | cbv) (lb rfl) ?_
        refine nT ?_
        refine AWp.ret ?_
        refine rB ?_
        refine rT ?_
        refine rT ?_
        refine exL hsK25 fun hx => ?_
        subst hx
        refine oxR ?_
        replace hkK25 := (eR (hK25 _ hkK25))
        refine rB ?_
        refine rT ?_
        cases soI hkK25
        exact ⟨rfl, rfl, rfl, lb rfl, _, rfl⟩
      · replace hsK25 := cF c23 hsK25
        refine AWp.cdF rfl (by first | rfl | simp only [c16, c23, Bool.not_true, Bool.not_false, cond_true, cond_false]) ?_
        refine AWp.skip ?_
        refine nB ?_
        refine nT ?_
        refine AWp.rg hT hA { tk := [18] } (by (repeat (cbv; simp only [c16, c23])); first | done | cbv) (lb rfl) ?_
        exact nT ⟨_, (soI hsK25).symm, rfl, (by first | (cbv; done) | ((repeat (cbv; simp only [c16, c23])); first | done | cbv))⟩
    · replace hsK25 := cF c16 hsK25
      refine AWp.cdF rfl (by first | rfl | simp only [c16, Bool.not_true, Bool.not_false, cond_true, cond_false]) ?_
      refine AWp.exit ?_
      refine xT ?_
      refine xT ?_
      refine exL hsK25 fun hx => ?_
      subst hx
      exact oxI ⟨rfl, hkK25, (by first | (cbv; done) | ((repeat (cbv; simp only [c16])); first | done | cbv))⟩
  · rintro _ ⟨hkK25, rfl⟩
    have h := (eL (hK25 _ hkK25))
    refine xB ?_
    refine nT ?_
    refine AWp.seq ?_
    refine AWp.rg hT hA {} (by cbv) (lb rfl) ?_
    refine nT ?_
    refine AWp.ret ?_
    cases soI h
    exact ⟨rfl, rfl, rfl, lb rfl, _, rfl⟩

theorem H128w {A : Ar} (hA : A = Ar.std) {x1 : List D} {x2 : Int} {x3 : Int} {x4 : List D} {x5 : List D} {x6 : Int} {v9 : Bool} (h : H128 A x1 x2 x3 x4 x5 x6 = some v9) : ACall Try.prog 128 [(.d (.list 1 x1)), (.func 129 [] [(.ptr 1 0)])] [(.cells [(.d (.int .i64 x2)), (.d (.int .i64 x3)), (.d (.list 1 x4)), (.d (.list 1 x5))]), (.cells [(.d (.int .i64 x6))])] (.d (.bool v9)) [(.cells [(.d (.int .i64 x2)), (.d (.int .i64 x3)), (.d (.list 1 x4)), (.d (.list 1 x5))]), (.cells [(.d (.int .i64 x6))])] := by
  unfold H128 at h
  refine ACall.enter hT (fn := Try.f128) Try.func128 rfl (by decide) (by simp [Try.f128]) rfl rfl rfl rfl (lb rfl) ?_
  refine AWp.seq ?_
  refine AWp.rg hT hA {} (by cbv) (lb rfl) ?_
  refine nT ?_
  refine AWp.seq ?_
  refine AWp.region ?_
  obtain ⟨r8, e7, h⟩ := bindS h
  refine AOps.cc hT hA { tk := [8] } (by cbv) (lb rfl) (H131w hA e7) rfl (.inl rfl) rfl rfl rfl (lb rfl) rfl rfl ?_
  refine AOps.cd hT hA { tk := [8] } (by cbv) (lb rfl) ?_
  refine nT ?_
  refine AWp.ret ?_
  cases soI h
  exact ⟨rfl, rfl, rfl, lb rfl, _, rfl⟩

theorem H127w {A : Ar} (hA : A = Ar.std) {x1 : List D} {x2 : Int} {x3 : Int} {x4 : List D} {x5 : List D} {x6 : Int} {v12 : Bool} (h : H127 A x1 x2 x3 x4 x5 x6 = some v12) : ACall Try.prog 127 [(.d (.list 1 x1)), (.ptr 0 0), (.ptr 1 0)] [(.cells [(.d (.int .i64 x2)), (.d (.int .i64 x3)), (.d (.list 1 x4)), (.d (.list 1 x5))]), (.cells [(.d (.int .i64 x6))])] (.d (.bool v12)) [(.cells [(.d (.int .i64 x2)), (.d (.int .i64 x3)), (.d (.list 1 x4)), (.d (.list 1 x5))]), (.cells [(.d (.int .i64 x6))])] := by
  unfold H127 at h
  refine ACall.enter hT (fn := Try.f127) Try.func127 rfl (by decide) (by simp [Try.f127]) rfl rfl rfl rfl (lb rfl) ?_
  refine AWp.seq ?_
  refine AWp.rg hT hA {} (by cbv) (lb rfl) ?_
  refine nT ?_
  refine AWp.seq ?_
  obtain ⟨v10, hvK11, h⟩ := bindS h
  refine AWp.cutN [4] [] 2 (lb rfl) (fun τ => τ = { env := [(4, (.d (.bool v10)))], heap := [(.cells [(.d (.int .i64 x2)), (.d (.int .i64 x3)), (.d (.list 1 x4)), (.d (.list 1 x5))]), (.cells [(.d (.int .i64 x6))])], n := 15 }) ?_ ?_
  · skip
    refine AWp.region ?_
    rcases tf (A.zeq (A.len x1) x3) with c7 | c7
    · replace hvK11 := cT c7 hvK11
      obtain ⟨r9, e8, hvK11⟩ := bindS hvK11
      refine AOps.cc hT hA { tk := [14] } (by (repeat (cbv; simp only [c7])); first | done | cbv) (lb rfl) (H128w hA e8) rfl (.inl rfl) rfl rfl rfl (lb rfl) rfl rfl ?_
      refine AOps.cd hT hA { tk := [14] } (by (repeat (cbv; simp only [c7])); first | done | cbv) (lb rfl) ?_
      cases soI hvK11
      exact oNi ⟨rfl, (by first | (cbv; done) | ((repeat (cbv; simp only [c7])); first | done | cbv))⟩
    · replace hvK11 := cF c7 hvK11
      refine AOps.cd hT hA { tk := [14] } (by (repeat (cbv; simp only [c7])); first | done | cbv) (lb rfl) ?_
      cases soI hvK11
      exact oNi ⟨rfl, (by first | (cbv; done) | ((repeat (cbv; simp only [c7])); first | done | cbv))⟩
  · rintro _ rfl
    refine nT ?_
    refine AWp.ret ?_
    cases soI h
    exact ⟨rfl, rfl, rfl, lb rfl, _, rfl⟩

theorem H130w {A : Ar} (hA : A = Ar.std) {x1 : List D} {x2 : Int} {x3 : Int} {x4 : List D} {x5 : List D} {x6 : Int} {v26 : Int} (h : H130 A x1 x2 x3 x4 x5 x6 = some v26) : ACall Try.prog 130 [(.d (.list 1 x1)), (.func 127 [] [(.ptr 0 0), (.ptr 1 0)])] [(.cells [(.d (.int .i64 x2)), (.d (.int .i64 x3)), (.d (.list 1 x4)), (.d (.list 1 x5))]), (.cells [(.d (.int .i64 x6))])] (.d (.int .i64 v26)) [(.cells [(.d (.int .i64 x2)), (.d (.int .i64 x3)), (.d (.list 1 x4)), (.d (.list 1 x5))]), (.cells [(.d (.int .i64 x6))])] := by
  unfold H130 at h
  refine ACall.enter hT (fn := Try.f130) Try.func130 rfl (by decide) (by simp [Try.f130]) rfl rfl rfl rfl (lb rfl) ?_
  refine AWp.seq ?_
  refine AWp.rg hT hA {} (by cbv) (lb rfl) ?_
  refine nT ?_
  refine AWp.seq ?_
  refine AWp.seq ?_
  refine AWp.rg hT hA {} (by cbv) (lb rfl) ?_
  refine nT ?_
  refine AWp.block ?_
  obtain ⟨xK25, hxK25, K25, hK25, hkK25⟩ := bindK h
  refine AWp.cutX 0 [] [] 2 (lb rfl) (fun τ => K25 (.inl ()) = some v26 ∧ τ = { env := [], heap := [(.cells [(.d (.int .i64 x2)), (.d (.int .i64 x3)), (.d (.list 1 x4)), (.d (.list 1 x5))]), (.cells [(.d (.int .i64 x6))])], n := 19 }) ?_ ?_
  · skip
    refine AWp.iter hxK25 [0, 1, 7, 8] [] 2 (lb rfl) (fun v15 => { env := [(0, (.d (.list 1 x1))), (1, (.func 127 [] [(.ptr 0 0), (.ptr 1 0)])), (7, (.d (.int .i64 (A.len x1)))), (8, (.d (.int .i64 v15)))], heap := [(.cells [(.d (.int .i64 x2)), (.d (.int .i64 x3)), (.d (.list 1 x4)), (.d (.list 1 x5))]), (.cells [(.d (.int .i64 x6))])], n := 19 }) ⟨rfl, (by cbv)⟩ ?_
    rintro v15 eK25 hsK25
    dsimp only [H130L0] at hsK25
    refine AWp.seq ?_
    refine AWp.rg hT hA {} (by cbv) (lb rfl) ?_
    refine nT ?_
    refine AWp.seq ?_
    rcases tf (A.zlt v15 (A.len x1)) with c16 | c16
    · replace hsK25 := cT c16 hsK25
      refine AWp.cdT rfl (by first | rfl | simp only [c16, Bool.not_true, Bool.not_false, cond_true, cond_false]) ?_
      refine AWp.skip ?_
      refine nT ?_
      refine AWp.seq ?_
      refine AWp.block ?_
      refine AWp.seq ?_
      refine AWp.rg hT hA { tk := [8, 10] } (by (repeat (cbv; simp only [c16])); first | done | cbv) (lb rfl) ?_
      refine nT ?_
      refine AWp.seq ?_
      refine AWp.region ?_
      obtain ⟨a17, e18, hsK25⟩ := bindS hsK25
      obtain ⟨f19, f20⟩ := gtI e18
      obtain ⟨r22, e21, hsK25⟩ := bindS hsK25
      refine AOps.cc hT hA {} (by (repeat (cbv; simp only [c16, f19, f20])); first | done | cbv) (lb rfl) (H127w hA e21) rfl (.inl rfl) rfl rfl rfl (lb rfl) rfl rfl ?_
      refine AOps.cd hT hA {} (by (repeat (cbv; simp only [c16, f19, f20])); first | done | cbv) (lb rfl) ?_
      refine nT ?_
      rcases tf r22 with c23 | c23
      · replace hsK25 := cT c23 hsK25
        refine AWp.cdT rfl (by first | rfl | simp only [c16, c23, Bool.not_true, Bool.not_false, cond_true, cond_false]) ?_
        refine AWp.seq ?_
        refine AWp.rg hT hA { tk := [5, 17] } (by (repeat (cbv; simp only [c16, c23])); first | done | cbv) (lb rfl) ?_
        refine nT ?_
        refine AWp.ret ?_
        refine rB ?_
        refine rT ?_
        refine rT ?_
        refine exL hsK25 fun hx => ?_
        subst hx
        refine oxR ?_
        replace hkK25 := (eR (hK25 _ hkK25))
        refine rB ?_
        refine rT ?_
        cases soI hkK25
        exact ⟨rfl, rfl, rfl, lb rfl, _, rfl⟩
      · replace hsK25 := cF c23 hsK25
        refine AWp.cdF rfl (by first | rfl | simp only [c16, c23, Bool.not_true, Bool.not_false, cond_true, cond_false]) ?_
        refine AWp.skip ?_
        refine nB ?_
        refine nT ?_
        refine AWp.rg hT hA { tk := [18] } (by (repeat (cbv; simp only [c16, c23])); first | done | cbv) (lb rfl) ?_
        exact nT ⟨_, (soI hsK25).symm, rfl, (by first | (cbv; done) | ((repeat (cbv; simp only [c16, c23])); first | done | cbv))⟩
    · replace hsK25 := cF c16 hsK25
      refine AWp.cdF rfl (by first | rfl | simp only [c16, Bool.not_true, Bool.not_false, cond_true, cond_false]) ?_
      refine AWp.exit ?_
      refine xT ?_
      refine xT ?_
      refine exL hsK25 fun hx => ?_
      subst hx
      exact oxI ⟨rfl, hkK25, (by first | (cbv; done) | ((repeat (cbv; simp only [c16])); first | done | cbv))⟩
  · rintro _ ⟨hkK25, rfl⟩
    have h := (eL (hK25 _ hkK25))
    refine xB ?_
    refine nT ?_
    refine AWp.seq ?_
    refine AWp.rg hT hA {} (by cbv) (lb rfl) ?_
    refine nT ?_
    refine AWp.ret ?_
    cases soI h
    exact ⟨rfl, rfl, rfl, lb rfl, _, rfl⟩

theorem H126w {A : Ar} (hA : A = Ar.std) {x1 : List D} {x2 : Int} {x3 : Int} {x4 : List D} {x5 : List D} {x6 : Int} {v9 : Bool} (h : H126 A x1 x2 x3 x4 x5 x6 = some v9) : ACall Try.prog 126 [(.d (.list 1 x1)), (.func 127 [] [(.ptr 0 0), (.ptr 1 0)])] [(.cells [(.d (.int .i64 x2)), (.d (.int .i64 x3)), (.d (.list 1 x4)), (.d (.list 1 x5))]), (.cells [(.d (.int .i64 x6))])] (.d (.bool v9)) [(.cells [(.d (.int .i64 x2)), (.d (.int .i64 x3)), (.d (.list 1 x4)), (.d (.list 1 x5))]), (.cells [(.d (.int .i64 x6))])] := by
  unfold H126 at h
  refine ACall.enter hT (fn := Try.f126) Try.func126 rfl (by decide) (by simp [Try.f126]) rfl rfl rfl rfl (lb rfl) ?_
  refine AWp.seq ?_
  refine AWp.rg hT hA {} (by cbv) (lb rfl) ?_
  refine nT ?_
  refine AWp.seq ?_
  refine AWp.region ?_
  obtain ⟨r8, e7, h⟩ := bindS h
  refine AOps.cc hT hA { tk := [8] } (by cbv) (lb rfl) (H130w hA e7) rfl (.inl rfl) rfl rfl rfl (lb rfl) rfl rfl ?_
  refine AOps.cd hT hA { tk := [8] } (by cbv) (lb rfl) ?_
  refine nT ?_
  refine AWp.ret ?_
  cases soI h
  exact ⟨rfl, rfl, rfl, lb rfl, _, rfl⟩

theorem H121w {A : Ar} (hA : A = Ar.std) {x1 : Int} {x2 : Int} {x3 : List D} {x4 : List D} {x5 : List D} {x6 : Int} {v12 : Bool} (h : H121 A x1 x2 x3 x4 x5 x6 = some v12) : ACall Try.prog 121 [(.d (.agg [(.int .i64 x1), (.int .i64 x2), (.list 1 x3), (.list 1 x4)])), (.d (.list 1 x5)), (.d (.int .i64 x6))] [] (.d (.bool v12)) [] := by
  unfold H121 at h
  refine ACall.enter hT (fn := Try.f121) Try.func121 rfl (by decide) (by simp [Try.f121]) rfl rfl rfl rfl (lb rfl) ?_
  refine AWp.seq ?_
  refine AWp.rg hT hA { esc := [3, 5] } (by cbv) (lb rfl) ?_
  refine nT ?_
  refine AWp.seq ?_
  obtain ⟨v10, hvK11, h⟩ := bindS h
  refine AWp.cutN [6] [] 2 (lb rfl) (fun τ => τ = { env := [(6, (.d (.bool v10)))], heap := [(.cells [(.d (.int .i64 x1)), (.d (.int .i64 x2)), (.d (.list 1 x3)), (.d (.list 1 x4))]), (.cells [(.d (.int .i64 x6))])], n := 18 }) ?_ ?_
  · skip
    refine AWp.region ?_
    rcases tf (A.zeq (A.len x5) x1) with c7 | c7
    · replace hvK11 := cT c7 hvK11
      obtain ⟨r9, e8, hvK11⟩ := bindS hvK11
      refine AOps.cc hT hA { tk := [17] } (by (repeat (cbv; simp only [c7])); first | done | cbv) (lb rfl) (H126w hA e8) rfl (.inl rfl) rfl rfl rfl (lb rfl) rfl rfl ?_
      refine AOps.cd hT hA { tk := [17] } (by (repeat (cbv; simp only [c7])); first | done | cbv) (lb rfl) ?_
      cases soI hvK11
      exact oNi ⟨rfl, (by first | (cbv; done) | ((repeat (cbv; simp only [c7])); first | done | cbv))⟩
    · replace hvK11 := cF c7 hvK11
      refine AOps.cd hT hA { tk := [17] } (by (repeat (cbv; simp only [c7])); first | done | cbv) (lb rfl) ?_
      cases soI hvK11
      exact oNi ⟨rfl, (by first | (cbv; done) | ((repeat (cbv; simp only [c7])); first | done | cbv))⟩
  · rintro _ rfl
    refine nT ?_
    refine AWp.ret ?_
    cases soI h
    exact ⟨rfl, rfl, rfl, lb rfl, _, rfl⟩

theorem H111w {A : Ar} (hA : A = Ar.std) {x1 : Int} {x2 : Int} {x3 : List D} {x4 : List D} {v18 : Bool} (h : H111 A x1 x2 x3 x4 = some v18) : ACall Try.prog 111 [(.d (.agg [(.int .i64 x1), (.int .i64 x2), (.list 1 x3), (.list 1 x4)]))] [] (.d (.bool v18)) [] := by
  unfold H111 at h
  refine ACall.enter hT (fn := Try.f111) Try.func111 rfl (by decide) (by simp [Try.f111]) rfl rfl rfl rfl (lb rfl) ?_
  refine AWp.seq ?_
  refine AWp.rg hT hA {} (by cbv) (lb rfl) ?_
  refine nT ?_
  refine AWp.seq ?_
  obtain ⟨v16, hvK17, h⟩ := bindS h
  refine AWp.cutN [2] [] 0 (lb rfl) (fun τ => τ = { env := [(2, (.d (.bool v16)))], heap := [], n := 26 }) ?_ ?_
  · skip
    refine AWp.region ?_
    obtain ⟨r6, e5, hvK17⟩ := bindS hvK17
    refine AOps.cc hT hA { tk := [25] } (by cbv) (lb rfl) (H120w hA e5) rfl (.inl rfl) rfl rfl rfl (lb rfl) rfl rfl ?_
    rcases tf r6 with c7 | c7
    · replace hvK17 := cT c7 hvK17
      obtain ⟨r9, e8, hvK17⟩ := bindS hvK17
      refine AOps.cc hT hA { tk := [25] } (by (repeat (cbv; simp only [c7])); first | done | cbv) (lb rfl) (H120w hA e8) rfl (.inl rfl) rfl rfl rfl (lb rfl) rfl rfl ?_
      rcases tf r9 with c10 | c10
      · replace hvK17 := cT c10 hvK17
        obtain ⟨r12, e11, hvK17⟩ := bindS hvK17
        refine AOps.cc hT hA { tk := [25] } (by (repeat (cbv; simp only [c7, c10])); first | done | cbv) (lb rfl) (H121w hA e11) rfl (.inl rfl) rfl rfl rfl (lb rfl) rfl rfl ?_
        rcases tf r12 with c13 | c13
        · replace hvK17 := cT c13 hvK17
          obtain ⟨r15, e14, hvK17⟩ := bindS hvK17
          refine AOps.cc hT hA { tk := [25] } (by (repeat (cbv; simp only [c7, c10, c13])); first | done | cbv) (lb rfl) (H121w hA e14) rfl (.inl rfl) rfl rfl rfl (lb rfl) rfl rfl ?_
          refine AOps.cd hT hA { tk := [25] } (by (repeat (cbv; simp only [c7, c10, c13])); first | done | cbv) (lb rfl) ?_
          cases soI hvK17
          exact oNi ⟨rfl, (by first | (cbv; done) | ((repeat (cbv; simp only [c7, c10, c13])); first | done | cbv))⟩
        · replace hvK17 := cF c13 hvK17
          refine AOps.cd hT hA { tk := [25] } (by (repeat (cbv; simp only [c7, c10, c13])); first | done | cbv) (lb rfl) ?_
          cases soI hvK17
          exact oNi ⟨rfl, (by first | (cbv; done) | ((repeat (cbv; simp only [c7, c10, c13])); first | done | cbv))⟩
      · replace hvK17 := cF c10 hvK17
        refine AOps.cd hT hA { tk := [25] } (by (repeat (cbv; simp only [c7, c10])); first | done | cbv) (lb rfl) ?_
        cases soI hvK17
        exact oNi ⟨rfl, (by first | (cbv; done) | ((repeat (cbv; simp only [c7, c10])); first | done | cbv))⟩
    · replace hvK17 := cF c7 hvK17
      refine AOps.cd hT hA { tk := [25] } (by (repeat (cbv; simp only [c7])); first | done | cbv) (lb rfl) ?_
      cases soI hvK17
      exact oNi ⟨rfl, (by first | (cbv; done) | ((repeat (cbv; simp only [c7])); first | done | cbv))⟩
  · rintro _ rfl
    refine nT ?_
    refine AWp.ret ?_
    cases soI h
    exact ⟨rfl, rfl, rfl, lb rfl, _, rfl⟩

theorem H110w {A : Ar} (hA : A = Ar.std) {x1 : Int} {x2 : Int} {x3 : List D} {x4 : List D} {v7 : Bool} (h : H110 A x1 x2 x3 x4 = some v7) : ACall Try.prog 110 [(.d (.agg [(.int .i64 x1), (.int .i64 x2), (.list 1 x3), (.list 1 x4)]))] [] (.d (.bool v7)) [] := by
  unfold H110 at h
  refine ACall.enter hT (fn := Try.f110) Try.func110 rfl (by decide) (by simp [Try.f110]) rfl rfl rfl rfl (lb rfl) ?_
  refine AWp.seq ?_
  refine AWp.rg hT hA {} (by cbv) (lb rfl) ?_
  refine nT ?_
  refine AWp.seq ?_
  refine AWp.region ?_
  obtain ⟨r6, e5, h⟩ := bindS h
  refine AOps.cc hT hA { tk := [5] } (by cbv) (lb rfl) (H111w hA e5) rfl (.inl rfl) rfl rfl rfl (lb rfl) rfl rfl ?_
  refine AOps.cd hT hA { tk := [5] } (by cbv) (lb rfl) ?_
  refine nT ?_
  refine AWp.ret ?_
  cases soI h
  exact ⟨rfl, rfl, rfl, lb rfl, _, rfl⟩

theorem H119w {A : Ar} (hA : A = Ar.std) {x1 : List D} {v27 : Int} (h : H119 A x1 = some v27) : ACall Try.prog 119 [(.d (.list 4 x1)), (.func 110 [] [])] [] (.d (.int .i64 v27)) [] := by
  unfold H119 at h
  refine ACall.enter hT (fn := Try.f119) Try.func119 rfl (by decide) (by simp [Try.f119]) rfl rfl rfl rfl (lb rfl) ?_
  refine AWp.seq ?_
  refine AWp.rg hT hA {} (by cbv) (lb rfl) ?_
  refine nT ?_
  refine AWp.seq ?_
  refine AWp.seq ?_
  refine AWp.rg hT hA {} (by cbv) (lb rfl) ?_
  refine nT ?_
  refine AWp.block ?_
  obtain ⟨xK26, hxK26, K26, hK26, hkK26⟩ := bindK h
  refine AWp.cutX 0 [] [] 0 (lb rfl) (fun τ => K26 (.inl ()) = some v27 ∧ τ = { env := [], heap := [], n := 19 }) ?_ ?_
  · skip
    refine AWp.iter hxK26 [0, 1, 7, 8] [] 0 (lb rfl) (fun v13 => { env := [(0, (.d (.list 4 x1))), (1, (.func 110 [] [])), (7, (.d (.int .i64 (A.len x1)))), (8, (.d (.int .i64 v13)))], heap := [], n := 19 }) ⟨rfl, (by cbv)⟩ ?_
    rintro v13 eK26 hsK26
    dsimp only [H119L0] at hsK26
    refine AWp.seq ?_
    refine AWp.rg hT hA {} (by cbv) (lb rfl) ?_
    refine nT ?_
    refine AWp.seq ?_
    rcases tf (A.zlt v13 (A.len x1)) with c14 | c14
    · replace hsK26 := cT c14 hsK26
      refine AWp.cdT rfl (by first | rfl | simp only [c14, Bool.not_true, Bool.not_false, cond_true, cond_false]) ?_
      refine AWp.skip ?_
      refine nT ?_
      refine AWp.seq ?_
      refine AWp.block ?_
      refine AWp.seq ?_
      refine AWp.rg hT hA { tk := [8, 10] } (by (repeat (cbv; simp only [c14])); first | done | cbv) (lb rfl) ?_
      refine nT ?_
      refine AWp.seq ?_
      refine AWp.region ?_
      obtain ⟨⟨a15, a16, a17, a18⟩, e19, hsK26⟩ := bindS hsK26
      obtain ⟨f20, f21⟩ := gtI e19
      obtain ⟨r23, e22, hsK26⟩ := bindS hsK26
      refine AOps.cc hT hA {} (by (repeat (cbv; simp only [c14, f20, f21])); first | done | cbv) (lb rfl) (H110w hA e22) rfl (.inl rfl) rfl rfl rfl (lb rfl) rfl rfl ?_
      refine AOps.cd hT hA {} (by (repeat (cbv; simp only [c14, f20, f21])); first | done | cbv) (lb rfl) ?_
      refine nT ?_
      rcases tf r23 with c24 | c24
      · replace hsK26 := cT c24 hsK26
        refine AWp.cdT rfl (by first | rfl | simp only [c14, c24, Bool.not_true, Bool.not_false, cond_true, cond_false]) ?_
        refine AWp.seq ?_
        refine AWp.rg hT hA { tk := [5, 17] } (by (repeat (cbv; simp only [c14, c24])); first | done | cbv) (lb rfl) ?_
        refine nT ?_
        refine AWp.ret ?_
        refine rB ?_
        refine rT ?_
        refine rT ?_
        refine exL hsK26 fun hx => ?_
        subst hx
        refine oxR ?_
        replace hkK26 := (eR (hK26 _ hkK26))
        refine rB ?_
        refine rT ?_
        cases soI hkK26
        exact ⟨rfl, rfl, rfl, lb rfl, _, rfl⟩
      · replace hsK26 := cF c24 hsK26
        refine AWp.cdF rfl (by first | rfl | simp only [c14, c24, Bool.not_true, Bool.not_false, cond_true, cond_false]) ?_
        refine AWp.skip ?_
        refine nB ?_
        refine nT ?_
        refine AWp.rg hT hA { tk := [18] } (by (repeat (cbv; simp only [c14, c24])); first | done | cbv) (lb rfl) ?_
        exact nT ⟨_, (soI hsK26).symm, rfl, (by first | (cbv; done) | ((repeat (cbv; simp only [c14, c24])); first | done | cbv))⟩
    · replace hsK26 := cF c14 hsK26
      refine AWp.cdF rfl (by first | rfl | simp only [c14, Bool.not_true, Bool.not_false, cond_true, cond_false]) ?_
      refine AWp.exit ?_
      refine xT ?_
      refine xT ?_
      refine exL hsK26 fun hx => ?_
      subst hx
      exact oxI ⟨rfl, hkK26, (by first | (cbv; done) | ((repeat (cbv; simp only [c14])); first | done | cbv))⟩
  · rintro _ ⟨hkK26, rfl⟩
    have h := (eL (hK26 _ hkK26))
    refine xB ?_
    refine nT ?_
    refine AWp.seq ?_
    refine AWp.rg hT hA {} (by cbv) (lb rfl) ?_
    refine nT ?_
    refine AWp.ret ?_
    cases soI h
    exact ⟨rfl, rfl, rfl, lb rfl, _, rfl⟩

theorem H109w {A : Ar} (hA : A = Ar.std) {x1 : List D} {v4 : Bool} (h : H109 A x1 = some v4) : ACall Try.prog 109 [(.d (.list 4 x1)), (.func 110 [] [])] [] (.d (.bool v4)) [] := by
  unfold H109 at h
  refine ACall.enter hT (fn := Try.f109) Try.func109 rfl (by decide) (by simp [Try.f109]) rfl rfl rfl rfl (lb rfl) ?_
  refine AWp.seq ?_
  refine AWp.rg hT hA {} (by cbv) (lb rfl) ?_
  refine nT ?_
  refine AWp.seq ?_
  refine AWp.region ?_
  obtain ⟨r3, e2, h⟩ := bindS h
  refine AOps.cc hT hA { tk := [8] } (by cbv) (lb rfl) (H119w hA e2) rfl (.inl rfl) rfl rfl rfl (lb rfl) rfl rfl ?_
  refine AOps.cd hT hA { tk := [8] } (by cbv) (lb rfl) ?_
  refine nT ?_
  refine AWp.ret ?_
  cases soI h
  exact ⟨rfl, rfl, rfl, lb rfl, _, rfl⟩

theorem H58w {A : Ar} (hA : A = Ar.std) {x1 : List D} {v9 : Bool} (h : H58 A x1 = some v9) : ACall Try.prog 58 [(.d (.list 4 x1))] [] (.d (.bool v9)) [] := by
  unfold H58 at h
  refine ACall.enter hT (fn := Try.f58) Try.func58 rfl (by decide) (by simp [Try.f58]) rfl rfl rfl rfl (lb rfl) ?_
  refine AWp.seq ?_
  refine AWp.rg hT hA {} (by cbv) (lb rfl) ?_
  refine nT ?_
  refine AWp.seq ?_
  obtain ⟨v7, hvK8, h⟩ := bindS h
  refine AWp.cutN [2] [] 0 (lb rfl) (fun τ => τ = { env := [(2, (.d (.bool v7)))], heap := [], n := 11 }) ?_ ?_
  · skip
    refine AWp.region ?_
    obtain ⟨r3, e2, hvK8⟩ := bindS hvK8
    refine AOps.cc hT hA { tk := [10] } (by cbv) (lb rfl) (H77w hA e2) rfl (.inl rfl) rfl rfl rfl (lb rfl) rfl rfl ?_
    rcases tf r3 with c4 | c4
    · replace hvK8 := cT c4 hvK8
      obtain ⟨r6, e5, hvK8⟩ := bindS hvK8
      refine AOps.cc hT hA { tk := [10] } (by (repeat (cbv; simp only [c4])); first | done | cbv) (lb rfl) (H109w hA e5) rfl (.inl rfl) rfl rfl rfl (lb rfl) rfl rfl ?_
      refine AOps.cd hT hA { tk := [10] } (by (repeat (cbv; simp only [c4])); first | done | cbv) (lb rfl) ?_
      cases soI hvK8
      exact oNi ⟨rfl, (by first | (cbv; done) | ((repeat (cbv; simp only [c4])); first | done | cbv))⟩
    · replace hvK8 := cF c4 hvK8
      refine AOps.cd hT hA { tk := [10] } (by (repeat (cbv; simp only [c4])); first | done | cbv) (lb rfl) ?_
      cases soI hvK8
      exact oNi ⟨rfl, (by first | (cbv; done) | ((repeat (cbv; simp only [c4])); first | done | cbv))⟩
  · rintro _ rfl
    refine nT ?_
    refine AWp.ret ?_
    cases soI h
    exact ⟨rfl, rfl, rfl, lb rfl, _, rfl⟩

theorem H69w {A : Ar} (hA : A = Ar.std) {x1 : Int} {x2 : Int} {x3 : Int} {x4 : Int} {x5 : Int} {x6 : Int} {v33 : Bool} (h : H69 A x1 x2 x3 x4 x5 x6 = some v33) : ACall Try.prog 69 [(.d (.agg [(.int .i64 x1), (.int .i64 x2), (.int .i64 x3), (.int .i64 x4), (.int .i64 x5), (.int .i64 x6)]))] [] (.d (.bool v33)) [] := by
  unfold H69 at h
  refine ACall.enter hT (fn := Try.f69) Try.func69 rfl (by decide) (by simp [Try.f69]) rfl rfl rfl rfl (lb rfl) ?_
  refine AWp.seq ?_
  refine AWp.rg hT hA {} (by cbv) (lb rfl) ?_
  refine nT ?_
  refine AWp.seq ?_
  obtain ⟨v21, hvK22, h⟩ := bindS h
  refine AWp.cutN [1, 3] [] 0 (lb rfl) (fun τ => τ = { env := [(1, (.lbox [(.d (.int .i64 x1)), (.d (.int .i64 x2)), (.d (.int .i64 x3)), (.d (.int .i64 x4)), (.d (.int .i64 x5)), (.d (.int .i64 x6))])), (3, (.d (.bool v21)))], heap := [], n := 49 }) ?_ ?_
  · skip
    refine AWp.region ?_
    obtain ⟨r8, e7, hvK22⟩ := bindS hvK22
    refine AOps.cc hT hA {} (by cbv) (lb rfl) (H77w hA e7) rfl (.inl rfl) rfl rfl rfl (lb rfl) rfl rfl ?_
    rcases tf r8 with c9 | c9
    · replace hvK22 := cT c9 hvK22
      obtain ⟨r11, e10, hvK22⟩ := bindS hvK22
      refine AOps.cc hT hA {} (by (repeat (cbv; simp only [c9])); first | done | cbv) (lb rfl) (H77w hA e10) rfl (.inl rfl) rfl rfl rfl (lb rfl) rfl rfl ?_
      rcases tf r11 with c12 | c12
      · replace hvK22 := cT c12 hvK22
        obtain ⟨r14, e13, hvK22⟩ := bindS hvK22
        refine AOps.cc hT hA {} (by (repeat (cbv; simp only [c9, c12])); first | done | cbv) (lb rfl) (H77w hA e13) rfl (.inl rfl) rfl rfl rfl (lb rfl) rfl rfl ?_
        rcases tf r14 with c15 | c15
        · replace hvK22 := cT c15 hvK22
          obtain ⟨r17, e16, hvK22⟩ := bindS hvK22
          refine AOps.cc hT hA {} (by (repeat (cbv; simp only [c9, c12, c15])); first | done | cbv) (lb rfl) (H77w hA e16) rfl (.inl rfl) rfl rfl rfl (lb rfl) rfl rfl ?_
          rcases tf r17 with c18 | c18
          · replace hvK22 := cT c18 hvK22
            obtain ⟨r20, e19, hvK22⟩ := bindS hvK22
            refine AOps.cc hT hA {} (by (repeat (cbv; simp only [c9, c12, c15, c18])); first | done | cbv) (lb rfl) (H77w hA e19) rfl (.inl rfl) rfl rfl rfl (lb rfl) rfl rfl ?_
            refine AOps.cd hT hA {} (by (repeat (cbv; simp only [c9, c12, c15, c18])); first | done | cbv) (lb rfl) ?_
            cases soI hvK22
            exact oNi ⟨rfl, (by first | (cbv; done) | ((repeat (cbv; simp only [c9, c12, c15, c18])); first | done | cbv))⟩
          · replace hvK22 := cF c18 hvK22
            refine AOps.cd hT hA {} (by (repeat (cbv; simp only [c9, c12, c15, c18])); first | done | cbv) (lb rfl) ?_
            cases soI hvK22
            exact oNi ⟨rfl, (by first | (cbv; done) | ((repeat (cbv; simp only [c9, c12, c15, c18])); first | done | cbv))⟩
        · replace hvK22 := cF c15 hvK22
          refine AOps.cd hT hA {} (by (repeat (cbv; simp only [c9, c12, c15])); first | done | cbv) (lb rfl) ?_
          cases soI hvK22
          exact oNi ⟨rfl, (by first | (cbv; done) | ((repeat (cbv; simp only [c9, c12, c15])); first | done | cbv))⟩
      · replace hvK22 := cF c12 hvK22
        refine AOps.cd hT hA {} (by (repeat (cbv; simp only [c9, c12])); first | done | cbv) (lb rfl) ?_
        cases soI hvK22
        exact oNi ⟨rfl, (by first | (cbv; done) | ((repeat (cbv; simp only [c9, c12])); first | done | cbv))⟩
    · replace hvK22 := cF c9 hvK22
      refine AOps.cd hT hA {} (by (repeat (cbv; simp only [c9])); first | done | cbv) (lb rfl) ?_
      cases soI hvK22
      exact oNi ⟨rfl, (by first | (cbv; done) | ((repeat (cbv; simp only [c9])); first | done | cbv))⟩
  · rintro _ rfl
    refine nT ?_
    refine AWp.seq ?_
    refine AWp.seq ?_
    refine AWp.rg hT hA {} (by cbv) (lb rfl) ?_
    refine nT ?_
    rcases tf (A.zeq x6 0) with c23 | c23
    · replace h := cT c23 h
      refine AWp.cdT rfl (by first | rfl | simp only [c23, Bool.not_true, Bool.not_false, cond_true, cond_false]) ?_
      refine AWp.seq ?_
      obtain ⟨v25, hvK26, h⟩ := bindS h
      refine AWp.cutN [2] [] 0 (lb rfl) (fun τ => τ = { env := [(2, (.d (.bool v25)))], heap := [], n := 49 }) ?_ ?_
      · skip
        rcases tf v21 with c24 | c24
        · replace hvK26 := cT c24 hvK26
          refine AWp.rg hT hA { tk := [35] } (by (repeat (cbv; simp only [c23, c24])); first | done | cbv) (lb rfl) ?_
          cases soI hvK26
          exact oNi ⟨rfl, (by first | (cbv; done) | ((repeat (cbv; simp only [c23, c24])); first | done | cbv))⟩
        · replace hvK26 := cF c24 hvK26
          refine AWp.rg hT hA { tk := [35] } (by (repeat (cbv; simp only [c23, c24])); first | done | cbv) (lb rfl) ?_
          cases soI hvK26
          exact oNi ⟨rfl, (by first | (cbv; done) | ((repeat (cbv; simp only [c23, c24])); first | done | cbv))⟩
      · rintro _ rfl
        refine nT ?_
        refine AWp.ret ?_
        refine rT ?_
        cases soI h
        exact ⟨rfl, rfl, rfl, lb rfl, _, rfl⟩
    · replace h := cF c23 h
      refine AWp.cdF rfl (by first | rfl | simp only [c23, Bool.not_true, Bool.not_false, cond_true, cond_false]) ?_
      refine AWp.skip ?_
      refine nT ?_
      refine AWp.seq ?_
      obtain ⟨v31, hvK32, h⟩ := bindS h
      refine AWp.cutN [2] [] 0 (lb rfl) (fun τ => τ = { env := [(2, (.d (.bool v31)))], heap := [], n := 49 }) ?_ ?_
      · skip
        refine AWp.region ?_
        rcases tf v21 with c27 | c27
        · replace hvK32 := cT c27 hvK32
          obtain ⟨r29, e28, hvK32⟩ := bindS hvK32
          refine AOps.cc hT hA { tk := [48] } (by (repeat (cbv; simp only [c23, c27])); first | done | cbv) (lb rfl) (H77w hA e28) rfl (.inl rfl) rfl rfl rfl (lb rfl) rfl rfl ?_
          rcases tf r29 with c30 | c30
          · replace hvK32 := cT c30 hvK32
            refine AOps.cd hT hA { tk := [48] } (by (repeat (cbv; simp only [c23, c27, c30])); first | done | cbv) (lb rfl) ?_
            cases soI hvK32
            exact oNi ⟨rfl, (by first | (cbv; done) | ((repeat (cbv; simp only [c23, c27, c30])); first | done | cbv))⟩
          · replace hvK32 := cF c30 hvK32
            refine AOps.cd hT hA { tk := [48] } (by (repeat (cbv; simp only [c23, c27, c30])); first | done | cbv) (lb rfl) ?_
            cases soI hvK32
            exact oNi ⟨rfl, (by first | (cbv; done) | ((repeat (cbv; simp only [c23, c27, c30])); first | done | cbv))⟩
        · replace hvK32 := cF c27 hvK32
          refine AOps.cd hT hA { tk := [48] } (by (repeat (cbv; simp only [c23, c27])); first | done | cbv) (lb rfl) ?_
          cases soI hvK32
          exact oNi ⟨rfl, (by first | (cbv; done) | ((repeat (cbv; simp only [c23, c27])); first | done | cbv))⟩
      · rintro _ rfl
        refine nT ?_
        refine AWp.ret ?_
        cases soI h
        exact ⟨rfl, rfl, rfl, lb rfl, _, rfl⟩

theorem H66w {A : Ar} (hA : A = Ar.std) {x1 : Int} {x2 : Int} {x3 : Int} {x4 : Int} {x5 : Int} {x6 : Int} {x7 : Int} {x8 : Int} {x9 : Int} {x10 : Int} {x11 : Int} {x12 : Int} {v16 : Bool} (h : H66 A x1 x2 x3 x4 x5 x6 x7 x8 x9 x10 x11 x12 = some v16) : ACall Try.prog 66 [(.d (.agg [(.int .i64 x1), (.int .i64 x2), (.int .i64 x3), (.int .i64 x4), (.int .i64 x5), (.int .i64 x6)])), (.d (.agg [(.int .i64 x7), (.int .i64 x8), (.int .i64 x9), (.int .i64 x10), (.int .i64 x11), (.int .i64 x12)]))] [] (.d (.bool v16)) [] := by
  unfold H66 at h
  refine ACall.enter hT (fn := Try.f66) Try.func66 rfl (by decide) (by simp [Try.f66]) rfl rfl rfl rfl (lb rfl) ?_
  refine AWp.seq ?_
  refine AWp.rg hT hA {} (by cbv) (lb rfl) ?_
  refine nT ?_
  refine AWp.seq ?_
  obtain ⟨v14, hvK15, h⟩ := bindS h
  refine AWp.cutN [4] [] 0 (lb rfl) (fun τ => τ = { env := [(4, (.d (.bool v14)))], heap := [], n := 15 }) ?_ ?_
  · skip
    rcases tf (A.zlt 0 x6) with c13 | c13
    · replace hvK15 := cT c13 hvK15
      refine AWp.rg hT hA { tk := [14] } (by (repeat (cbv; simp only [c13])); first | done | cbv) (lb rfl) ?_
      cases soI hvK15
      exact oNi ⟨rfl, (by first | (cbv; done) | ((repeat (cbv; simp only [c13])); first | done | cbv))⟩
    · replace hvK15 := cF c13 hvK15
      refine AWp.rg hT hA { tk := [14] } (by (repeat (cbv; simp only [c13])); first | done | cbv) (lb rfl) ?_
      cases soI hvK15
      exact oNi ⟨rfl, (by first | (cbv; done) | ((repeat (cbv; simp only [c13])); first | done | cbv))⟩
  · rintro _ rfl
    refine nT ?_
    refine AWp.ret ?_
    cases soI h
    exact ⟨rfl, rfl, rfl, lb rfl, _, rfl⟩

theorem H24w {A : Ar} (hA : A = Ar.std) {x1 : List D} {v192 : Bool} (h : H24 A x1 = some v192) : ACall Try.prog 24 [(.d (.list 6 x1))] [] (.d (.bool v192)) [] := by
  unfold H24 at h
  refine ACall.enter hT (fn := Try.f24) Try.func24 rfl (by decide) (by simp [Try.f24]) rfl rfl rfl rfl (lb rfl) ?_
  refine AWp.seq ?_
  refine AWp.rg hT hA {} (by cbv) (lb rfl) ?_
  refine nT ?_
  refine AWp.seq ?_
  refine AWp.seq ?_
  refine AWp.rg hT hA {} (by cbv) (lb rfl) ?_
  refine nT ?_
  rcases tf (A.zlt 8 (A.len x1)) with c2 | c2
  · replace h := cT c2 h
    refine AWp.cdT rfl (by first | rfl | simp only [c2, Bool.not_true, Bool.not_false, cond_true, cond_false]) ?_
    refine AWp.seq ?_
    refine AWp.rg hT hA {} (by (repeat (cbv; simp only [c2])); first | done | cbv) (lb rfl) ?_
    refine nT ?_
    refine AWp.ret ?_
    refine rT ?_
    cases soI h
    exact ⟨rfl, rfl, rfl, lb rfl, _, rfl⟩
  · replace h := cF c2 h
    refine AWp.cdF rfl (by first | rfl | simp only [c2, Bool.not_true, Bool.not_false, cond_true, cond_false]) ?_
    refine AWp.skip ?_
    refine nT ?_
    refine AWp.seq ?_
    refine AWp.rg hT hA { arr := [3] } (by (repeat (cbv; simp only [c2])); first | done | cbv) (lb rfl) ?_
    refine nT ?_
    refine AWp.seq ?_
    refine AWp.seq ?_
    refine AWp.rg hT hA {} (by (repeat (cbv; simp only [c2])); first | done | cbv) (lb rfl) ?_
    refine nT ?_
    refine AWp.block ?_
    obtain ⟨xK191, hxK191, K191, hK191, hkK191⟩ := bindK h
    refine AWp.cutX 0 [] [] 1 (lb rfl) (fun τ => ∃ v189, K191 (.inl v189) = some v192 ∧ τ = { env := [], heap := [(.arr 1 v189)], n := 67 }) ?_ ?_
    · skip
      refine AWp.iter hxK191 [0, 3, 11, 12, 13] [] 1 (lb rfl) (fun (v95, v96) => { env := [(0, (.d (.list 6 x1))), (3, (.ptr 0 0)), (11, (.d (.list 6 x1))), (12, (.d (.int .i64 (A.len x1)))), (13, (.d (.int .i64 v95)))], heap := [(.arr 1 v96)], n := 67 }) ⟨rfl, (by first | (cbv; done) | ((repeat (cbv; simp only [c2])); first | done | cbv))⟩ ?_
      rintro ⟨v95, v96⟩ eK191 hsK191
      dsimp only [H24L1] at hsK191
      refine AWp.seq ?_
      refine AWp.rg hT hA {} (by cbv) (lb rfl) ?_
      refine nT ?_
      refine AWp.seq ?_
      rcases tf (A.zlt v95 (A.len x1)) with c97 | c97
      · replace hsK191 := cT c97 hsK191
        refine AWp.cdT rfl (by first | rfl | simp only [c97, Bool.not_true, Bool.not_false, cond_true, cond_false]) ?_
        refine AWp.skip ?_
        refine nT ?_
        refine AWp.seq ?_
        refine AWp.block ?_
        refine AWp.seq ?_
        obtain ⟨⟨a98, a99, a100, a101, a102, a103⟩, e104, hsK191⟩ := bindS hsK191
        obtain ⟨f105, f106⟩ := gtI e104
        refine AWp.rg hT hA { tk := [17] } (by (repeat (cbv; simp only [c97, f105, f106])); first | done | cbv) (lb rfl) ?_
        refine nT ?_
        refine AWp.seq ?_
        refine AWp.seq ?_
        obtain ⟨v117, hvK118, hsK191⟩ := bindS hsK191
        refine AWp.cutN [0, 3, 4, 5, 11, 12, 13, 26] [] 1 (lb rfl) (fun τ => τ = { env := [(0, (.d (.list 6 x1))), (3, (.ptr 0 0)), (4, (.d (.int .i64 v95))), (5, (.lbox [(.d (.int .i64 a98)), (.d (.int .i64 a99)), (.d (.int .i64 a100)), (.d (.int .i64 a101)), (.d (.int .i64 a102)), (.d (.int .i64 a103))])), (11, (.d (.list 6 x1))), (12, (.d (.int .i64 (A.len x1)))), (13, (.d (.int .i64 v95))), (26, (.d (.bool v117)))], heap := [(.arr 1 v96)], n := 67 }) ?_ ?_
        · skip
          refine AWp.region ?_
          obtain ⟨r108, e107, hvK118⟩ := bindS hvK118
          refine AOps.cc hT hA {} (by (repeat (cbv; simp only [c97])); first | done | cbv) (lb rfl) (H69w hA e107) rfl (.inr rfl) rfl rfl rfl (lb rfl) rfl rfl ?_
          rcases tf r108 with c109 | c109
          · replace hvK118 := cT c109 hvK118
            obtain ⟨_, e110, hvK118⟩ := bindS hvK118
            have f112 := ckI e110
            obtain ⟨_, e111, hvK118⟩ := bindS hvK118
            have f113 := ckI e111
            obtain ⟨a114, e115, hvK118⟩ := bindS hvK118
            have f116 := gcI e115
            refine AOps.cd hT hA {} (by (repeat (cbv; simp only [c97, c109, f112, f113, f116])); first | done | cbv) (lb rfl) ?_
            cases soI hvK118
            exact oNi ⟨rfl, (by first | (cbv; done) | ((repeat (cbv; simp only [c97, c109])); first | done | cbv))⟩
          · replace hvK118 := cF c109 hvK118
            refine AOps.cd hT hA {} (by (repeat (cbv; simp only [c97, c109])); first | done | cbv) (lb rfl) ?_
            cases soI hvK118
            exact oNi ⟨rfl, (by first | (cbv; done) | ((repeat (cbv; simp only [c97, c109])); first | done | cbv))⟩
        · rintro _ rfl
          refine nT ?_
          rcases tf v117 with c119 | c119
          · replace hsK191 := cT c119 hsK191
            refine AWp.cdT rfl (by first | rfl | simp only [c119, Bool.not_true, Bool.not_false, cond_true, cond_false]) ?_
            refine AWp.seq ?_
            refine AWp.rg hT hA {} (by (repeat (cbv; simp only [c119])); first | done | cbv) (lb rfl) ?_
            refine nT ?_
            refine AWp.ret ?_
            refine rT ?_
            refine rB ?_
            refine rT ?_
            refine rT ?_
            refine exL hsK191 fun hx => ?_
            subst hx
            refine oxR ?_
            replace hkK191 := (eR (hK191 _ hkK191))
            refine rB ?_
            refine rT ?_
            cases soI hkK191
            exact ⟨rfl, rfl, rfl, lb rfl, _, rfl⟩
          · replace hsK191 := cF c119 hsK191
            refine AWp.cdF rfl (by first | rfl | simp only [c119, Bool.not_true, Bool.not_false, cond_true, cond_false]) ?_
            refine AWp.skip ?_
            refine nT ?_
            refine AWp.seq ?_
            obtain ⟨_, e120, hsK191⟩ := bindS hsK191
            have f122 := ckI e120
            obtain ⟨_, e121, hsK191⟩ := bindS hsK191
            have f123 := ckI e121
            obtain ⟨d124, e125, hsK191⟩ := bindS hsK191
            refine AWp.rg hT hA {} (by (repeat (cbv; simp only [c119, f122, f123, e125])); first | done | cbv) (lb rfl) ?_
            refine nT ?_
            refine AWp.seq ?_
            refine AWp.seq ?_
            refine AWp.rg hT hA {} (by (repeat (cbv; simp only [c119])); first | done | cbv) (lb rfl) ?_
            refine nT ?_
            obtain ⟨K142, hK142, hsK191⟩ := jnI hsK191
            refine AWp.cutN [0, 3, 4, 5, 11, 12, 13] [] 1 (lb rfl) (fun τ => ∃ v141, K142 v141 = some eK191 ∧ τ = { env := [(0, (.d (.list 6 x1))), (3, (.ptr 0 0)), (4, (.d (.int .i64 v95))), (5, (.lbox [(.d (.int .i64 a98)), (.d (.int .i64 a99)), (.d (.int .i64 a100)), (.d (.int .i64 a101)), (.d (.int .i64 a102)), (.d (.int .i64 a103))])), (11, (.d (.list 6 x1))), (12, (.d (.int .i64 (A.len x1)))), (13, (.d (.int .i64 v95)))], heap := [(.arr 1 v141)], n := 67 }) ?_ ?_
            · skip
              rcases tf (A.zlt 0 a103) with c126 | c126
              · replace hsK191 := cT c126 hsK191
                refine AWp.cdT rfl (by first | rfl | simp only [c119, c126, Bool.not_true, Bool.not_false, cond_true, cond_false]) ?_
                refine AWp.seq ?_
                refine AWp.seq ?_
                obtain ⟨_, e127, hsK191⟩ := bindS hsK191
                have f129 := ckI e127
                obtain ⟨_, e128, hsK191⟩ := bindS hsK191
                have f130 := ckI e128
                obtain ⟨a131, e132, hsK191⟩ := bindS hsK191
                have f133 := gcI e132
                refine AWp.rg hT hA {} (by (repeat (cbv; simp only [c119, c126, f129, f130, f133])); first | done | cbv) (lb rfl) ?_
                refine nT ?_
                rcases tf a131 with c134 | c134
                · replace hsK191 := cT c134 hsK191
                  refine AWp.cdT rfl (by first | rfl | simp only [c119, c126, c134, Bool.not_true, Bool.not_false, cond_true, cond_false]) ?_
                  refine AWp.seq ?_
                  refine AWp.rg hT hA {} (by (repeat (cbv; simp only [c119, c126, c134])); first | done | cbv) (lb rfl) ?_
                  refine nT ?_
                  refine AWp.ret ?_
                  refine rT ?_
                  refine oNr ?_
                  refine rT ?_
                  refine rB ?_
                  refine rT ?_
                  refine rT ?_
                  refine exL hsK191 fun hx => ?_
                  subst hx
                  refine oxR ?_
                  replace hkK191 := (eR (hK191 _ hkK191))
                  refine rB ?_
                  refine rT ?_
                  cases soI hkK191
                  exact ⟨rfl, rfl, rfl, lb rfl, _, rfl⟩
                · replace hsK191 := cF c134 hsK191
                  refine AWp.cdF rfl (by first | rfl | simp only [c119, c126, c134, Bool.not_true, Bool.not_false, cond_true, cond_false]) ?_
                  refine AWp.skip ?_
                  refine nT ?_
                  obtain ⟨_, e135, hsK191⟩ := bindS hsK191
                  have f137 := ckI e135
                  obtain ⟨_, e136, hsK191⟩ := bindS hsK191
                  have f138 := ckI e136
                  obtain ⟨d139, e140, hsK191⟩ := bindS hsK191
                  refine AWp.rg hT hA {} (by (repeat (cbv; simp only [c119, c126, c134, f137, f138, e140])); first | done | cbv) (lb rfl) ?_
                  exact oNi ⟨rfl, _, hsK191, (by first | (cbv; done) | ((repeat (cbv; simp only [c119, c126, c134])); first | done | cbv))⟩
              · replace hsK191 := cF c126 hsK191
                refine AWp.cdF rfl (by first | rfl | simp only [c119, c126, Bool.not_true, Bool.not_false, cond_true, cond_false]) ?_
                refine AWp.skip ?_
                exact oNi ⟨rfl, _, hsK191, (by first | (cbv; done) | ((repeat (cbv; simp only [c119, c126])); first | done | cbv))⟩
            · rintro _ ⟨v141, hsK191, rfl⟩
              replace hsK191 := hK142 _ hsK191
              refine nT ?_
              refine AWp.seq ?_
              obtain ⟨l143, e144, hsK191⟩ := bindS hsK191
              obtain ⟨f145, f146, f147, f148⟩ := slI e144
              refine AWp.rg hT hA {} (by (repeat (cbv; simp only [f145, f146, f147, f148])); first | done | cbv) (lb rfl) ?_
              refine nT ?_
              refine AWp.block ?_
              obtain ⟨xK188, hxK188, K188, hK188, hkK188⟩ := bindK hsK191
              refine AWp.cutX 2 [0, 3, 11, 12, 13] [] 1 (lb rfl) (fun τ => K188 (.inl ()) = some eK191 ∧ τ = { env := [(0, (.d (.list 6 x1))), (3, (.ptr 0 0)), (11, (.d (.list 6 x1))), (12, (.d (.int .i64 (A.len x1)))), (13, (.d (.int .i64 v95)))], heap := [(.arr 1 v141)], n := 67 }) ?_ ?_
              · skip
                refine AWp.iter hxK188 [0, 3, 5, 11, 12, 13, 42, 43, 44] [] 1 (lb rfl) (fun v168 => { env := [(0, (.d (.list 6 x1))), (3, (.ptr 0 0)), (5, (.lbox [(.d (.int .i64 a98)), (.d (.int .i64 a99)), (.d (.int .i64 a100)), (.d (.int .i64 a101)), (.d (.int .i64 a102)), (.d (.int .i64 a103))])), (11, (.d (.list 6 x1))), (12, (.d (.int .i64 (A.len x1)))), (13, (.d (.int .i64 v95))), (42, (.d (.list 6 l143))), (43, (.d (.int .i64 (A.len l143)))), (44, (.d (.int .i64 v168)))], heap := [(.arr 1 v141)], n := 67 }) ⟨rfl, (by cbv)⟩ ?_
                rintro v168 eK188 hsK188
                dsimp only [H24L0] at hsK188
                refine AWp.seq ?_
                refine AWp.rg hT hA {} (by cbv) (lb rfl) ?_
                refine nT ?_
                refine AWp.seq ?_
                rcases tf (A.zlt v168 (A.len l143)) with c169 | c169
                · replace hsK188 := cT c169 hsK188
                  refine AWp.cdT rfl (by first | rfl | simp only [c169, Bool.not_true, Bool.not_false, cond_true, cond_false]) ?_
                  refine AWp.skip ?_
                  refine nT ?_
                  refine AWp.seq ?_
                  refine AWp.block ?_
                  refine AWp.seq ?_
                  obtain ⟨⟨a170, a171, a172, a173, a174, a175⟩, e176, hsK188⟩ := bindS hsK188
                  obtain ⟨f177, f178⟩ := gtI e176
                  refine AWp.rg hT hA { tk := [47] } (by (repeat (cbv; simp only [c169, f177, f178])); first | done | cbv) (lb rfl) ?_
                  refine nT ?_
                  refine AWp.seq ?_
                  obtain ⟨v185, hvK186, hsK188⟩ := bindS hsK188
                  refine AWp.cutN [0, 3, 5, 11, 12, 13, 42, 43, 44, 64] [] 1 (lb rfl) (fun τ => τ = { env := [(0, (.d (.list 6 x1))), (3, (.ptr 0 0)), (5, (.lbox [(.d (.int .i64 a98)), (.d (.int .i64 a99)), (.d (.int .i64 a100)), (.d (.int .i64 a101)), (.d (.int .i64 a102)), (.d (.int .i64 a103))])), (11, (.d (.list 6 x1))), (12, (.d (.int .i64 (A.len x1)))), (13, (.d (.int .i64 v95))), (42, (.d (.list 6 l143))), (43, (.d (.int .i64 (A.len l143)))), (44, (.d (.int .i64 v168))), (64, (.d (.bool v185)))], heap := [(.arr 1 v141)], n := 67 }) ?_ ?_
                  · skip
                    refine AWp.region ?_
                    rcases tf (A.zeq a98 a170) with c179 | c179
                    · replace hvK186 := cT c179 hvK186
                      obtain ⟨r181, e180, hvK186⟩ := bindS hvK186
                      refine AOps.cc hT hA {} (by (repeat (cbv; simp only [c169, c179])); first | done | cbv) (lb rfl) (H66w hA e180) rfl (.inr rfl) rfl rfl rfl (lb rfl) rfl rfl ?_
                      rcases tf r181 with c182 | c182
                      · replace hvK186 := cT c182 hvK186
                        refine AOps.cd hT hA {} (by (repeat (cbv; simp only [c169, c179, c182])); first | done | cbv) (lb rfl) ?_
                        cases soI hvK186
                        exact oNi ⟨rfl, (by first | (cbv; done) | ((repeat (cbv; simp only [c169, c179, c182])); first | done | cbv))⟩
                      · replace hvK186 := cF c182 hvK186
                        obtain ⟨r184, e183, hvK186⟩ := bindS hvK186
                        refine AOps.cc hT hA {} (by (repeat (cbv; simp only [c169, c179, c182])); first | done | cbv) (lb rfl) (H66w hA e183) rfl (.inr rfl) rfl rfl rfl (lb rfl) rfl rfl ?_
                        refine AOps.cd hT hA {} (by (repeat (cbv; simp only [c169, c179, c182])); first | done | cbv) (lb rfl) ?_
                        cases soI hvK186
                        exact oNi ⟨rfl, (by first | (cbv; done) | ((repeat (cbv; simp only [c169, c179, c182])); first | done | cbv))⟩
                    · replace hvK186 := cF c179 hvK186
                      refine AOps.cd hT hA {} (by (repeat (cbv; simp only [c169, c179])); first | done | cbv) (lb rfl) ?_
                      cases soI hvK186
                      exact oNi ⟨rfl, (by first | (cbv; done) | ((repeat (cbv; simp only [c169, c179])); first | done | cbv))⟩
                  · rintro _ rfl
                    refine nT ?_
                    rcases tf v185 with c187 | c187
                    · replace hsK188 := cT c187 hsK188
                      refine AWp.cdT rfl (by first | rfl | simp only [c187, Bool.not_true, Bool.not_false, cond_true, cond_false]) ?_
                      refine AWp.seq ?_
                      refine AWp.rg hT hA {} (by (repeat (cbv; simp only [c187])); first | done | cbv) (lb rfl) ?_
                      refine nT ?_
                      refine AWp.ret ?_
                      refine rB ?_
                      refine rT ?_
                      refine rT ?_
                      refine exL hsK188 fun hx => ?_
                      subst hx
                      refine oxR ?_
                      replace hkK188 := (eR (hK188 _ hkK188))
                      refine rB ?_
                      refine rB ?_
                      refine rT ?_
                      refine rT ?_
                      refine exL hkK188 fun hx => ?_
                      subst hx
                      refine oxR ?_
                      replace hkK191 := (eR (hK191 _ hkK191))
                      refine rB ?_
                      refine rT ?_
                      cases soI hkK191
                      exact ⟨rfl, rfl, rfl, lb rfl, _, rfl⟩
                    · replace hsK188 := cF c187 hsK188
                      refine AWp.cdF rfl (by first | rfl | simp only [c187, Bool.not_true, Bool.not_false, cond_true, cond_false]) ?_
                      refine AWp.skip ?_
                      refine nB ?_
                      refine nT ?_
                      refine AWp.rg hT hA {} (by (repeat (cbv; simp only [c187])); first | done | cbv) (lb rfl) ?_
                      exact nT ⟨_, (soI hsK188).symm, rfl, (by first | (cbv; done) | ((repeat (cbv; simp only [c187])); first | done | cbv))⟩
                · replace hsK188 := cF c169 hsK188
                  refine AWp.cdF rfl (by first | rfl | simp only [c169, Bool.not_true, Bool.not_false, cond_true, cond_false]) ?_
                  refine AWp.exit ?_
                  refine xT ?_
                  refine xT ?_
                  refine exL hsK188 fun hx => ?_
                  subst hx
                  exact oxI ⟨rfl, hkK188, (by first | (cbv; done) | ((repeat (cbv; simp only [c169])); first | done | cbv))⟩
              · rintro _ ⟨hkK188, rfl⟩
                have hsK191 := (eL (hK188 _ hkK188))
                refine xB ?_
                refine nB ?_
                refine nT ?_
                refine AWp.rg hT hA {} (by cbv) (lb rfl) ?_
                exact nT ⟨_, (soI hsK191).symm, rfl, (by cbv)⟩
      · replace hsK191 := cF c97 hsK191
        refine AWp.cdF rfl (by first | rfl | simp only [c97, Bool.not_true, Bool.not_false, cond_true, cond_false]) ?_
        refine AWp.exit ?_
        refine xT ?_
        refine xT ?_
        refine exL hsK191 fun hx => ?_
        subst hx
        exact oxI ⟨rfl, _, hkK191, (by first | (cbv; done) | ((repeat (cbv; simp only [c97])); first | done | cbv))⟩
    · rintro _ ⟨v189, hkK191, rfl⟩
      have h := (eL (hK191 _ hkK191))
      refine xB ?_
      refine nT ?_
      refine AWp.seq ?_
      refine AWp.rg hT hA {} (by cbv) (lb rfl) ?_
      refine nT ?_
      refine AWp.ret ?_
      cases soI h
      exact ⟨rfl, rfl, rfl, lb rfl, _, rfl⟩

theorem H113w {A : Ar} (hA : A = Ar.std) {x1 : Int} {x2 : Int} {x3 : Int} {x4 : Int} {x5 : Int} {x6 : Int} {x7 : List D} {v18 : Bool} (h : H113 A x1 x2 x3 x4 x5 x6 x7 = some v18) : ACall Try.prog 113 [(.d (.agg [(.int .i64 x1), (.int .i64 x2), (.int .i64 x3), (.int .i64 x4), (.int .i64 x5), (.int .i64 x6)])), (.ptr 0 0)] [(.cells [(.d (.list 4 x7))])] (.d (.bool v18)) [(.cells [(.d (.list 4 x7))])] := by
  unfold H113 at h
  refine ACall.enter hT (fn := Try.f113) Try.func113 rfl (by decide) (by simp [Try.f113]) rfl rfl rfl rfl (lb rfl) ?_
  refine AWp.seq ?_
  refine AWp.rg hT hA {} (by cbv) (lb rfl) ?_
  refine nT ?_
  refine AWp.seq ?_
  obtain ⟨v16, hvK17, h⟩ := bindS h
  refine AWp.cutN [3] [] 1 (lb rfl) (fun τ => τ = { env := [(3, (.d (.bool v16)))], heap := [(.cells [(.d (.list 4 x7))])], n := 20 }) ?_ ?_
  · skip
    rcases tf (A.zle (A.len x7) x2) with c8 | c8
    · replace hvK17 := cT c8 hvK17
      refine AWp.rd hT hA { tk := [19] } rfl (by (repeat (cbv; simp only [c8])); first | done | cbv) (by kernel_rfl) (lb rfl) ?_
      cases soI hvK17
      exact oNi ⟨rfl, (by first | (cbv; done) | ((repeat (cbv; simp only [c8])); first | done | cbv))⟩
    · replace hvK17 := cF c8 hvK17
      obtain ⟨⟨a9, a10, a11, a12⟩, e13, hvK17⟩ := bindS hvK17
      obtain ⟨f14, f15⟩ := gtI e13
      refine AWp.rd hT hA { tk := [19] } rfl (by (repeat (cbv; simp only [c8, f14, f15])); first | done | cbv) (by kernel_rfl) (lb rfl) ?_
      cases soI hvK17
      exact oNi ⟨rfl, (by first | (cbv; done) | ((repeat (cbv; simp only [c8])); first | done | cbv))⟩
  · rintro _ rfl
    refine nT ?_
    refine AWp.ret ?_
    cases soI h
    exact ⟨rfl, rfl, rfl, lb rfl, _, rfl⟩

theorem H122w {A : Ar} (hA : A = Ar.std) {x1 : List D} {x2 : List D} {v32 : Int} (h : H122 A x1 x2 = some v32) : ACall Try.prog 122 [(.d (.list 6 x1)), (.func 113 [] [(.ptr 0 0)])] [(.cells [(.d (.list 4 x2))])] (.d (.int .i64 v32)) [(.cells [(.d (.list 4 x2))])] := by
  unfold H122 at h
  refine ACall.enter hT (fn := Try.f122) Try.func122 rfl (by decide) (by simp [Try.f122]) rfl rfl rfl rfl (lb rfl) ?_
  refine AWp.seq ?_
  refine AWp.rg hT hA {} (by cbv) (lb rfl) ?_
  refine nT ?_
  refine AWp.seq ?_
  refine AWp.seq ?_
  refine AWp.rg hT hA {} (by cbv) (lb rfl) ?_
  refine nT ?_
  refine AWp.block ?_
  obtain ⟨xK31, hxK31, K31, hK31, hkK31⟩ := bindK h
  refine AWp.cutX 0 [] [] 1 (lb rfl) (fun τ => K31 (.inl ()) = some v32 ∧ τ = { env := [], heap := [(.cells [(.d (.list 4 x2))])], n := 19 }) ?_ ?_
  · skip
    refine AWp.iter hxK31 [0, 1, 7, 8] [] 1 (lb rfl) (fun v16 => { env := [(0, (.d (.list 6 x1))), (1, (.func 113 [] [(.ptr 0 0)])), (7, (.d (.int .i64 (A.len x1)))), (8, (.d (.int .i64 v16)))], heap := [(.cells [(.d (.list 4 x2))])], n := 19 }) ⟨rfl, (by cbv)⟩ ?_
    rintro v16 eK31 hsK31
    dsimp only [H122L0] at hsK31
    refine AWp.seq ?_
    refine AWp.rg hT hA {} (by cbv) (lb rfl) ?_
    refine nT ?_
    refine AWp.seq ?_
    rcases tf (A.zlt v16 (A.len x1)) with c17 | c17
    · replace hsK31 := cT c17 hsK31
      refine AWp.cdT rfl (by first | rfl | simp only [c17, Bool.not_true, Bool.not_false, cond_true, cond_false]) ?_
      refine AWp.skip ?_
      refine nT ?_
      refine AWp.seq ?_
      refine AWp.block ?_
      refine AWp.seq ?_
      refine AWp.rg hT hA { tk := [8, 10] } (by (repeat (cbv; simp only [c17])); first | done | cbv) (lb rfl) ?_
      refine nT ?_
      refine AWp.seq ?_
      refine AWp.region ?_
      obtain ⟨⟨a18, a19, a20, a21, a22, a23⟩, e24, hsK31⟩ := bindS hsK31
      obtain ⟨f25, f26⟩ := gtI e24
      obtain ⟨r28, e27, hsK31⟩ := bindS hsK31
      refine AOps.cc hT hA {} (by (repeat (cbv; simp only [c17, f25, f26])); first | done | cbv) (lb rfl) (H113w hA e27) rfl (.inl rfl) rfl rfl rfl (lb rfl) rfl rfl ?_
      refine AOps.cd hT hA {} (by (repeat (cbv; simp only [c17, f25, f26])); first | done | cbv) (lb rfl) ?_
      refine nT ?_
      rcases tf r28 with c29 | c29
      · replace hsK31 := cT c29 hsK31
        refine AWp.cdT rfl (by first | rfl | simp only [c17, c29, Bool.not_true, Bool.not_false, cond_true, cond_false]) ?_
        refine AWp.seq ?_
        refine AWp.rg hT hA { tk := [5, 17] } (by (repeat (cbv; simp only [c17, c29])); first | done | cbv) (lb rfl) ?_
        refine nT ?_
        refine AWp.ret ?_
        refine rB ?_
        refine rT ?_
        refine rT ?_
        refine exL hsK31 fun hx => ?_
        subst hx
        refine oxR ?_
        replace hkK31 := (eR (hK31 _ hkK31))
        refine rB ?_
        refine rT ?_
        cases soI hkK31
        exact ⟨rfl, rfl, rfl, lb rfl, _, rfl⟩
      · replace hsK31 := cF c29 hsK31
        refine AWp.cdF rfl (by first | rfl | simp only [c17, c29, Bool.not_true, Bool.not_false, cond_true, cond_false]) ?_
        refine AWp.skip ?_
        refine nB ?_
        refine nT ?_
        refine AWp.rg hT hA { tk := [18] } (by (repeat (cbv; simp only [c17, c29])); first | done | cbv) (lb rfl) ?_
        exact nT ⟨_, (soI hsK31).symm, rfl, (by first | (cbv; done) | ((repeat (cbv; simp only [c17, c29])); first | done | cbv))⟩
    · replace hsK31 := cF c17 hsK31
      refine AWp.cdF rfl (by first | rfl | simp only [c17, Bool.not_true, Bool.not_false, cond_true, cond_false]) ?_
      refine AWp.exit ?_
      refine xT ?_
      refine xT ?_
      refine exL hsK31 fun hx => ?_
      subst hx
      exact oxI ⟨rfl, hkK31, (by first | (cbv; done) | ((repeat (cbv; simp only [c17])); first | done | cbv))⟩
  · rintro _ ⟨hkK31, rfl⟩
    have h := (eL (hK31 _ hkK31))
    refine xB ?_
    refine nT ?_
    refine AWp.seq ?_
    refine AWp.rg hT hA {} (by cbv) (lb rfl) ?_
    refine nT ?_
    refine AWp.ret ?_
    cases soI h
    exact ⟨rfl, rfl, rfl, lb rfl, _, rfl⟩

theorem H112w {A : Ar} (hA : A = Ar.std) {x1 : List D} {x2 : List D} {v5 : Bool} (h : H112 A x1 x2 = some v5) : ACall Try.prog 112 [(.d (.list 6 x1)), (.func 113 [] [(.ptr 0 0)])] [(.cells [(.d (.list 4 x2))])] (.d (.bool v5)) [(.cells [(.d (.list 4 x2))])] := by
  unfold H112 at h
  refine ACall.enter hT (fn := Try.f112) Try.func112 rfl (by decide) (by simp [Try.f112]) rfl rfl rfl rfl (lb rfl) ?_
  refine AWp.seq ?_
  refine AWp.rg hT hA {} (by cbv) (lb rfl) ?_
  refine nT ?_
  refine AWp.seq ?_
  refine AWp.region ?_
  obtain ⟨r4, e3, h⟩ := bindS h
  refine AOps.cc hT hA { tk := [8] } (by cbv) (lb rfl) (H122w hA e3) rfl (.inl rfl) rfl rfl rfl (lb rfl) rfl rfl ?_
  refine AOps.cd hT hA { tk := [8] } (by cbv) (lb rfl) ?_
  refine nT ?_
  refine AWp.ret ?_
  cases soI h
  exact ⟨rfl, rfl, rfl, lb rfl, _, rfl⟩

theorem H59w {A : Ar} (hA : A = Ar.std) {x1 : List D} {x2 : List D} {v5 : Bool} (h : H59 A x1 x2 = some v5) : ACall Try.prog 59 [(.d (.list 4 x1)), (.d (.list 6 x2))] [] (.d (.bool v5)) [] := by
  unfold H59 at h
  refine ACall.enter hT (fn := Try.f59) Try.func59 rfl (by decide) (by simp [Try.f59]) rfl rfl rfl rfl (lb rfl) ?_
  refine AWp.seq ?_
  refine AWp.rg hT hA { esc := [2] } (by cbv) (lb rfl) ?_
  refine nT ?_
  refine AWp.seq ?_
  refine AWp.region ?_
  obtain ⟨r4, e3, h⟩ := bindS h
  refine AOps.cc hT hA { tk := [8] } (by cbv) (lb rfl) (H112w hA e3) rfl (.inl rfl) rfl rfl rfl (lb rfl) rfl rfl ?_
  refine AOps.cd hT hA { tk := [8] } (by cbv) (lb rfl) ?_
  refine nT ?_
  refine AWp.ret ?_
  cases soI h
  exact ⟨rfl, rfl, rfl, lb rfl, _, rfl⟩

theorem H20w {A : Ar} (hA : A = Ar.std) {x1 : List D} {x2 : List D} {v13 : Bool} {v14 : Int} (h : H20 A x1 x2 = some (v13, v14)) : ACall Try.prog 20 [(.d (.list 4 x1)), (.d (.list 6 x2))] [] (.tuple [(.d (.bool v13)), (.d (.int .i64 v14))]) [] := by
  unfold H20 at h
  refine ACall.enter hT (fn := Try.f20) Try.func20 rfl (by decide) (by simp [Try.f20]) rfl rfl rfl rfl (lb rfl) ?_
  refine AWp.seq ?_
  refine AWp.rg hT hA {} (by cbv) (lb rfl) ?_
  refine nT ?_
  refine AWp.seq ?_
  refine AWp.seq ?_
  refine AWp.region ?_
  obtain ⟨r4, e3, h⟩ := bindS h
  refine AOps.cc hT hA {} (by cbv) (lb rfl) (H58w hA e3) rfl (.inl rfl) rfl rfl rfl (lb rfl) rfl rfl ?_
  refine AOps.cd hT hA {} (by cbv) (lb rfl) ?_
  refine nT ?_
  rcases tf r4 with c5 | c5
  · replace h := cT c5 h
    refine AWp.cdF rfl (by first | rfl | simp only [c5, Bool.not_true, Bool.not_false, cond_true, cond_false]) ?_
    refine AWp.skip ?_
    refine nT ?_
    refine AWp.seq ?_
    obtain ⟨v11, hvK12, h⟩ := bindS h
    refine AWp.cutN [4, 5] [] 0 (lb rfl) (fun τ => τ = { env := [(4, (.d (.bool v11))), (5, (.d (.int .i64 0)))], heap := [], n := 16 }) ?_ ?_
    · skip
      refine AWp.region ?_
      obtain ⟨r7, e6, hvK12⟩ := bindS hvK12
      refine AOps.cc hT hA {} (by (repeat (cbv; simp only [c5])); first | done | cbv) (lb rfl) (H24w hA e6) rfl (.inl rfl) rfl rfl rfl (lb rfl) rfl rfl ?_
      rcases tf r7 with c8 | c8
      · replace hvK12 := cT c8 hvK12
        obtain ⟨r10, e9, hvK12⟩ := bindS hvK12
        refine AOps.cc hT hA {} (by (repeat (cbv; simp only [c5, c8])); first | done | cbv) (lb rfl) (H59w hA e9) rfl (.inl rfl) rfl rfl rfl (lb rfl) rfl rfl ?_
        refine AOps.cd hT hA {} (by (repeat (cbv; simp only [c5, c8])); first | done | cbv) (lb rfl) ?_
        cases soI hvK12
        exact oNi ⟨rfl, (by first | (cbv; done) | ((repeat (cbv; simp only [c5, c8])); first | done | cbv))⟩
      · replace hvK12 := cF c8 hvK12
        refine AOps.cd hT hA {} (by (repeat (cbv; simp only [c5, c8])); first | done | cbv) (lb rfl) ?_
        cases soI hvK12
        exact oNi ⟨rfl, (by first | (cbv; done) | ((repeat (cbv; simp only [c5, c8])); first | done | cbv))⟩
    · rintro _ rfl
      refine nT ?_
      refine AWp.ret ?_
      cases soI h
      exact ⟨rfl, rfl, rfl, lb rfl, _, rfl⟩
  · replace h := cF c5 h
    refine AWp.cdT rfl (by first | rfl | simp only [c5, Bool.not_true, Bool.not_false, cond_true, cond_false]) ?_
    refine AWp.seq ?_
    refine AWp.rg hT hA {} (by (repeat (cbv; simp only [c5])); first | done | cbv) (lb rfl) ?_
    refine nT ?_
    refine AWp.ret ?_
    refine rT ?_
    cases soI h
    exact ⟨rfl, rfl, rfl, lb rfl, _, rfl⟩

theorem H71w {A : Ar} (hA : A = Ar.std) {x1 : List D} {x2 : List D} {v12 : Int} (h : H71 A x1 x2 = some v12) : ACall Try.prog 71 [(.d (.list 4 x1)), (.d (.list 6 x2))] [] (.d (.int .i64 v12)) [] := by
  unfold H71 at h
  refine ACall.enter hT (fn := Try.f71) Try.func71 rfl (by decide) (by simp [Try.f71]) rfl rfl rfl rfl (lb rfl) ?_
  refine AWp.seq ?_
  refine AWp.rg hT hA {} (by cbv) (lb rfl) ?_
  refine nT ?_
  refine AWp.seq ?_
  refine AWp.region ?_
  obtain ⟨⟨r4, r5⟩, e3, h⟩ := bindS h
  refine AOps.cc hT hA { tk := [12] } (by cbv) (lb rfl) (H20w hA e3) rfl (.inl rfl) rfl rfl rfl (lb rfl) rfl rfl ?_
  refine AOps.cd hT hA { tk := [12] } (by cbv) (lb rfl) ?_
  refine nT ?_
  refine AWp.seq ?_
  refine AWp.seq ?_
  obtain ⟨v7, hvK8, h⟩ := bindS h
  refine AWp.cutN [6, 18] [] 0 (lb rfl) (fun τ => τ = { env := [(6, (.d (.int .i64 r5))), (18, (.d (.bool v7)))], heap := [], n := 20 }) ?_ ?_
  · skip
    rcases tf (A.zeq r5 0) with c6 | c6
    · replace hvK8 := cT c6 hvK8
      refine AWp.rg hT hA {} (by (repeat (cbv; simp only [c6])); first | done | cbv) (lb rfl) ?_
      cases soI hvK8
      exact oNi ⟨rfl, (by first | (cbv; done) | ((repeat (cbv; simp only [c6])); first | done | cbv))⟩
    · replace hvK8 := cF c6 hvK8
      refine AWp.rg hT hA {} (by (repeat (cbv; simp only [c6])); first | done | cbv) (lb rfl) ?_
      cases soI hvK8
      exact oNi ⟨rfl, (by first | (cbv; done) | ((repeat (cbv; simp only [c6])); first | done | cbv))⟩
  · rintro _ rfl
    refine nT ?_
    obtain ⟨v10, hvK11, h⟩ := bindS h
    refine AWp.cutN [6] [] 0 (lb rfl) (fun τ => τ = { env := [(6, (.d (.int .i64 v10)))], heap := [], n := 20 }) ?_ ?_
    · skip
      rcases tf v7 with c9 | c9
      · replace hvK11 := cT c9 hvK11
        refine AWp.cdT rfl (by first | rfl | simp only [c9, Bool.not_true, Bool.not_false, cond_true, cond_false]) ?_
        refine AWp.rg hT hA {} (by (repeat (cbv; simp only [c9])); first | done | cbv) (lb rfl) ?_
        cases soI hvK11
        exact oNi ⟨rfl, (by first | (cbv; done) | ((repeat (cbv; simp only [c9])); first | done | cbv))⟩
      · replace hvK11 := cF c9 hvK11
        refine AWp.cdF rfl (by first | rfl | simp only [c9, Bool.not_true, Bool.not_false, cond_true, cond_false]) ?_
        refine AWp.skip ?_
        cases soI hvK11
        exact oNi ⟨rfl, (by first | (cbv; done) | ((repeat (cbv; simp only [c9])); first | done | cbv))⟩
    · rintro _ rfl
      refine nT ?_
      refine AWp.seq ?_
      refine AWp.rg hT hA { tk := [6, 19] } (by cbv) (lb rfl) ?_
      refine nT ?_
      refine AWp.ret ?_
      cases soI h
      exact ⟨rfl, rfl, rfl, lb rfl, _, rfl⟩

theorem H72w {A : Ar} (hA : A = Ar.std) {x1 : List D} {x2 : List D} {v3 : List D} {v4 : List D} (h : H72 A x1 x2 = some (v3, v4)) : ACall Try.prog 72 [(.d (.list 4 x1)), (.d (.list 6 x2)), (.func 66 [] [])] [] (.ptr 1 0) [(.map true [.int .u8, .int .i64, .int .i64] []), (.cells [(.d (.list 4 v3)), (.d (.list 6 v4)), (.func 66 [] []), (.map 0)])] := by
  unfold H72 at h
  refine ACall.enter hT (fn := Try.f72) Try.func72 rfl (by decide) (by simp [Try.f72]) rfl rfl rfl rfl (lb rfl) ?_
  refine AWp.seq ?_
  refine AWp.rg hT hA {} (by cbv) (lb rfl) ?_
  refine nT ?_
  refine AWp.seq ?_
  refine AWp.rg hT hA { tk := [12], esc := [12] } (by cbv) (lb rfl) ?_
  refine nT ?_
  refine AWp.ret ?_
  cases soI h
  exact ⟨rfl, rfl, rfl, lb rfl, _, rfl⟩

theorem H124aw {A : Ar} (hA : A = Ar.std) {x1 : Int} {x2 : Int} {v5 : Bool} (h : H124a A x1 x2 = some v5) : ACall Try.prog 124 [(.d (.int .u8 x1)), (.d (.int .i64 x2))] [] (.d (.bool v5)) [] := by
  unfold H124a at h
  refine ACall.enter hT (fn := Try.f124) Try.func124 rfl (by decide) (by simp [Try.f124]) rfl rfl rfl rfl (lb rfl) ?_
  refine AWp.seq ?_
  refine AWp.rg hT hA {} (by cbv) (lb rfl) ?_
  refine nT ?_
  refine AWp.seq ?_
  obtain ⟨_, e3, h⟩ := bindS h
  have f4 := nkI e3
  refine AWp.rg hT hA { tk := [9] } (by (repeat (cbv; simp only [f4])); first | done | cbv) (lb rfl) ?_
  refine nT ?_
  refine AWp.ret ?_
  cases soI h
  exact ⟨rfl, rfl, rfl, lb rfl, _, rfl⟩

theorem H115aw {A : Ar} (hA : A = Ar.std) {x1 : Int} {x2 : Int} {x3 : Int} {x4 : List (D × D)} {x5 : List D} {x6 : List D} {v41 : Bool} (h : H115a A x1 x2 x3 x4 x5 x6 = some v41) : ACall Try.prog 115 [(.ptr 1 0), (.d (.agg [(.int .u8 x1), (.int .i64 x2), (.int .i64 x3)]))] [(.map true [.int .u8, .int .i64, .int .i64] x4), (.cells [(.d (.list 4 x5)), (.d (.list 6 x6)), (.func 66 [] []), (.map 0)])] (.d (.bool v41)) [(.map true [.int .u8, .int .i64, .int .i64] x4), (.cells [(.d (.list 4 x5)), (.d (.list 6 x6)), (.func 66 [] []), (.map 0)])] := by
  unfold H115a at h
  refine ACall.enter hT (fn := Try.f115) Try.func115 rfl (by decide) (by simp [Try.f115]) rfl rfl rfl rfl (lb rfl) ?_
  refine AWp.seq ?_
  refine AWp.rg hT hA {} (by cbv) (lb rfl) ?_
  refine nT ?_
  refine AWp.seq ?_
  refine AWp.seq ?_
  refine AWp.rg hT hA {} (by cbv) (lb rfl) ?_
  refine nT ?_
  refine AWp.block ?_
  obtain ⟨xK40, hxK40, K40, hK40, hkK40⟩ := bindK h
  refine AWp.cutX 0 [] [] 2 (lb rfl) (fun τ => K40 (.inl ()) = some v41 ∧ τ = { env := [], heap := [(.map true [.int .u8, .int .i64, .int .i64] x4), (.cells [(.d (.list 4 x5)), (.d (.list 6 x6)), (.func 66 [] []), (.map 0)])], n := 28 }) ?_ ?_
  · skip
    refine AWp.iter hxK40 [3, 10, 11, 12] [] 2 (lb rfl) (fun v23 => { env := [(3, (.lbox [(.d (.int .u8 x1)), (.d (.int .i64 x2)), (.d (.int .i64 x3))])), (10, (.d (.list 6 x6))), (11, (.d (.int .i64 (A.len x6)))), (12, (.d (.int .i64 v23)))], heap := [(.map true [.int .u8, .int .i64, .int .i64] x4), (.cells [(.d (.list 4 x5)), (.d (.list 6 x6)), (.func 66 [] []), (.map 0)])], n := 28 }) ⟨rfl, (by cbv)⟩ ?_
    rintro v23 eK40 hsK40
    dsimp only [H115aL0] at hsK40
    refine AWp.seq ?_
    refine AWp.rg hT hA {} (by cbv) (lb rfl) ?_
    refine nT ?_
    refine AWp.seq ?_
    rcases tf (A.zlt v23 (A.len x6)) with c24 | c24
    · replace hsK40 := cT c24 hsK40
      refine AWp.cdT rfl (by first | rfl | simp only [c24, Bool.not_true, Bool.not_false, cond_true, cond_false]) ?_
      refine AWp.skip ?_
      refine nT ?_
      refine AWp.seq ?_
      refine AWp.block ?_
      refine AWp.seq ?_
      obtain ⟨⟨a25, a26, a27, a28, a29, a30⟩, e31, hsK40⟩ := bindS hsK40
      obtain ⟨f32, f33⟩ := gtI e31
      refine AWp.rg hT hA { tk := [16] } (by (repeat (cbv; simp only [c24, f32, f33])); first | done | cbv) (lb rfl) ?_
      refine nT ?_
      refine AWp.seq ?_
      obtain ⟨v37, hvK38, hsK40⟩ := bindS hsK40
      refine AWp.cutN [3, 10, 11, 12, 26] [] 2 (lb rfl) (fun τ => τ = { env := [(3, (.lbox [(.d (.int .u8 x1)), (.d (.int .i64 x2)), (.d (.int .i64 x3))])), (10, (.d (.list 6 x6))), (11, (.d (.int .i64 (A.len x6)))), (12, (.d (.int .i64 v23))), (26, (.d (.bool v37)))], heap := [(.map true [.int .u8, .int .i64, .int .i64] x4), (.cells [(.d (.list 4 x5)), (.d (.list 6 x6)), (.func 66 [] []), (.map 0)])], n := 28 }) ?_ ?_
      · skip
        refine AWp.region ?_
        rcases tf (A.zlt 0 a30) with c34 | c34
        · replace hvK38 := cT c34 hvK38
          obtain ⟨r36, e35, hvK38⟩ := bindS hvK38
          refine AOps.cc hT hA {} (by (repeat (cbv; simp only [c24, c34])); first | done | cbv) (lb rfl) (H124aw hA e35) rfl (.inr rfl) rfl rfl rfl (lb rfl) rfl rfl ?_
          refine AOps.cd hT hA {} (by (repeat (cbv; simp only [c24, c34])); first | done | cbv) (lb rfl) ?_
          cases soI hvK38
          exact oNi ⟨rfl, (by first | (cbv; done) | ((repeat (cbv; simp only [c24, c34])); first | done | cbv))⟩
        · replace hvK38 := cF c34 hvK38
          refine AOps.cd hT hA {} (by (repeat (cbv; simp only [c24, c34])); first | done | cbv) (lb rfl) ?_
          cases soI hvK38
          exact oNi ⟨rfl, (by first | (cbv; done) | ((repeat (cbv; simp only [c24, c34])); first | done | cbv))⟩
      · rintro _ rfl
        refine nT ?_
        rcases tf v37 with c39 | c39
        · replace hsK40 := cT c39 hsK40
          refine AWp.cdT rfl (by first | rfl | simp only [c39, Bool.not_true, Bool.not_false, cond_true, cond_false]) ?_
          refine AWp.seq ?_
          refine AWp.rg hT hA {} (by (repeat (cbv; simp only [c39])); first | done | cbv) (lb rfl) ?_
          refine nT ?_
          refine AWp.ret ?_
          refine rB ?_
          refine rT ?_
          refine rT ?_
          refine exL hsK40 fun hx => ?_
          subst hx
          refine oxR ?_
          replace hkK40 := (eR (hK40 _ hkK40))
          refine rB ?_
          refine rT ?_
          cases soI hkK40
          exact ⟨rfl, rfl, rfl, lb rfl, _, rfl⟩
        · replace hsK40 := cF c39 hsK40
          refine AWp.cdF rfl (by first | rfl | simp only [c39, Bool.not_true, Bool.not_false, cond_true, cond_false]) ?_
          refine AWp.skip ?_
          refine nB ?_
          refine nT ?_
          refine AWp.rg hT hA {} (by (repeat (cbv; simp only [c39])); first | done | cbv) (lb rfl) ?_
          exact nT ⟨_, (soI hsK40).symm, rfl, (by first | (cbv; done) | ((repeat (cbv; simp only [c39])); first | done | cbv))⟩
    · replace hsK40 := cF c24 hsK40
      refine AWp.cdF rfl (by first | rfl | simp only [c24, Bool.not_true, Bool.not_false, cond_true, cond_false]) ?_
      refine AWp.exit ?_
      refine xT ?_
      refine xT ?_
      refine exL hsK40 fun hx => ?_
      subst hx
      exact oxI ⟨rfl, hkK40, (by first | (cbv; done) | ((repeat (cbv; simp only [c24])); first | done | cbv))⟩
  · rintro _ ⟨hkK40, rfl⟩
    have h := (eL (hK40 _ hkK40))
    refine xB ?_
    refine nT ?_
    refine AWp.seq ?_
    refine AWp.rg hT hA {} (by cbv) (lb rfl) ?_
    refine nT ?_
    refine AWp.ret ?_
    cases soI h
    exact ⟨rfl, rfl, rfl, lb rfl, _, rfl⟩

theorem H116cw {A : Ar} (hA : A = Ar.std) {x1 : Int} {x2 : Int} {x3 : Int} {x4 : List (D × D)} {x5 : List D} {x6 : List D} {x7 : Int} {v8 : Int} {v9 : Int} {v10 : Int} (h : H116c A x1 x2 x3 x4 x5 x6 x7 = some (v8, v9, v10)) : ACall Try.prog 116 [(.ptr 1 0), (.d (.agg [(.int .u8 x1), (.int .i64 x2), (.int .i64 x3)]))] [(.map true [.int .u8, .int .i64, .int .i64] x4), (.cells [(.d (.list 4 x5)), (.d (.list 6 x6)), (.func 66 [] []), (.map 0)]), (.cells [(.ptr 1 0)]), (.cells [(.d (.int .i64 x7))])] (.func 125 [] [(.ptr 4 0), (.ptr 5 0)]) [(.map true [.int .u8, .int .i64, .int .i64] x4), (.cells [(.d (.list 4 x5)), (.d (.list 6 x6)), (.func 66 [] []), (.map 0)]), (.cells [(.ptr 1 0)]), (.cells [(.d (.int .i64 x7))]), (.cells [(.ptr 1 0)]), (.cells [(.d (.int .u8 v8)), (.d (.int .i64 v9)), (.d (.int .i64 v10))])] := by
  unfold H116c at h
  refine ACall.enter hT (fn := Try.f116) Try.func116 rfl (by decide) (by simp [Try.f116]) rfl rfl rfl rfl (lb rfl) ?_
  refine AWp.seq ?_
  refine AWp.rg hT hA { esc := [2, 3] } (by cbv) (lb rfl) ?_
  refine nT ?_
  refine AWp.seq ?_
  refine AWp.rg hT hA { tk := [5] } (by cbv) (lb rfl) ?_
  refine nT ?_
  refine AWp.ret ?_
  cases soI h
  exact ⟨rfl, rfl, rfl, lb rfl, _, rfl⟩

theorem H78aw {A : Ar} (hA : A = Ar.std) {x1 : Int} {x2 : Int} {x3 : List D} {x4 : Int} {x5 : Int} {x6 : Int} {x7 : Int} {x8 : Int} {x9 : Int} {v53 : Int} {v54 : Int} {v55 : Bool} (h : H78a A x1 x2 x3 x4 x5 x6 x7 x8 x9 = some (v53, v54, v55)) : ACall Try.prog 78 [(.d (.agg [(.int .i64 x1), (.int .i64 x2)])), (.d (.list 4 x3)), (.d (.agg [(.int .i64 x4), (.int .i64 x5), (.int .i64 x6), (.int .i64 x7), (.int .i64 x8), (.int .i64 x9)]))] [] (.tuple [(.d (.agg [(.int .i64 v53), (.int .i64 v54)])), (.d (.bool v55))]) [] := by
  unfold H78a at h
  refine ACall.enter hT (fn := Try.f78) Try.func78 rfl (by decide) (by simp [Try.f78]) rfl rfl rfl rfl (lb rfl) ?_
  refine AWp.seq ?_
  refine AWp.rg hT hA {} (by cbv) (lb rfl) ?_
  refine nT ?_
  refine AWp.seq ?_
  obtain ⟨⟨v21, v22, v23, v24, v25⟩, hvK26, h⟩ := bindS h
  refine AWp.cutN [3, 5, 6, 8, 9] [] 0 (lb rfl) (fun τ => τ = { env := [(3, (.lbox [(.d (.int .i64 x1)), (.d (.int .i64 x2))])), (5, (.lbox [(.d (.int .i64 x4)), (.d (.int .i64 x5)), (.d (.int .i64 x6)), (.d (.int .i64 x7)), (.d (.int .i64 x8)), (.d (.int .i64 x9))])), (6, (.lbox [(.d (.int .i64 0)), (.d (.int .i64 0))])), (8, (.lbox [(.d (.int .i64 v21)), (.d (.int .i64 v22)), (.d (.list 1 v23)), (.d (.list 1 v24))])), (9, (.d (.int .i64 v25)))], heap := [], n := 49 }) ?_ ?_
  · skip
    obtain ⟨⟨a10, a11, a12, a13⟩, e14, hvK26⟩ := bindS hvK26
    obtain ⟨f15, f16⟩ := gtI e14
    rcases tf (A.zeq x5 0) with c17 | c17
    · replace hvK26 := cT c17 hvK26
      obtain ⟨f18a, f18b, f18c⟩ := ixF hA (n := 2) c17 (by decide)
      have f16f18 := f16
      rw [f18c] at f16f18
      refine AWp.rd hT hA { tk := [14] } rfl (by (repeat (cbv; simp only [f15, f16, f18a, f18b, f18c, f16f18])); first | done | cbv) (by kernel_rfl) (lb rfl) ?_
      cases soI hvK26
      exact oNi ⟨rfl, (by cbv)⟩
    · replace hvK26 := cF c17 hvK26
      rcases tf (A.zeq x5 1) with c19 | c19
      · replace hvK26 := cT c19 hvK26
        obtain ⟨f20a, f20b, f20c⟩ := ixF hA (n := 2) c19 (by decide)
        have f16f20 := f16
        rw [f20c] at f16f20
        refine AWp.rd hT hA { tk := [14] } rfl (by (repeat (cbv; simp only [f15, f16, f20a, f20b, f20c, f16f20])); first | done | cbv) (by kernel_rfl) (lb rfl) ?_
        cases soI hvK26
        exact oNi ⟨rfl, (by cbv)⟩
      · replace hvK26 := cF c19 hvK26
        cases hvK26
  · rintro _ rfl
    refine nT ?_
    refine AWp.seq ?_
    obtain ⟨⟨v39, v40⟩, hvK41, h⟩ := bindS h
    refine AWp.cutN [3, 5, 6, 8, 9] [] 0 (lb rfl) (fun τ => τ = { env := [(3, (.lbox [(.d (.int .i64 v39)), (.d (.int .i64 v40))])), (5, (.lbox [(.d (.int .i64 x4)), (.d (.int .i64 x5)), (.d (.int .i64 x6)), (.d (.int .i64 x7)), (.d (.int .i64 x8)), (.d (.int .i64 x9))])), (6, (.lbox [(.d (.int .i64 0)), (.d (.int .i64 0))])), (8, (.lbox [(.d (.int .i64 v21)), (.d (.int .i64 v22)), (.d (.list 1 v23)), (.d (.list 1 v24))])), (9, (.d (.int .i64 v25)))], heap := [], n := 49 }) ?_ ?_
    · skip
      obtain ⟨a27, e28, hvK41⟩ := bindS hvK41
      obtain ⟨f29, f30⟩ := gtI e28
      obtain ⟨a31, e32, hvK41⟩ := bindS hvK41
      obtain ⟨f33, f34⟩ := gtI e32
      rcases tf (A.zeq x5 0) with c35 | c35
      · replace hvK41 := cT c35 hvK41
        obtain ⟨f36a, f36b, f36c⟩ := ixF hA (n := 2) c35 (by decide)
        refine AWp.rd hT hA { tk := [29] } rfl (by (repeat (cbv; simp only [f29, f30, f33, f34, f36a, f36b, f36c])); first | done | cbv) (by kernel_rfl) (lb rfl) ?_
        cases soI hvK41
        exact oNi ⟨rfl, (by cbv)⟩
      · replace hvK41 := cF c35 hvK41
        rcases tf (A.zeq x5 1) with c37 | c37
        · replace hvK41 := cT c37 hvK41
          obtain ⟨f38a, f38b, f38c⟩ := ixF hA (n := 2) c37 (by decide)
          refine AWp.rd hT hA { tk := [29] } rfl (by (repeat (cbv; simp only [f29, f30, f33, f34, f38a, f38b, f38c])); first | done | cbv) (by kernel_rfl) (lb rfl) ?_
          cases soI hvK41
          exact oNi ⟨rfl, (by cbv)⟩
        · replace hvK41 := cF c37 hvK41
          cases hvK41
    · rintro _ rfl
      refine nT ?_
      refine AWp.seq ?_
      obtain ⟨v51, hvK52, h⟩ := bindS h
      refine AWp.cutN [6, 7] [] 0 (lb rfl) (fun τ => τ = { env := [(6, (.lbox [(.d (.int .i64 v39)), (.d (.int .i64 v40))])), (7, (.d (.bool v51)))], heap := [], n := 49 }) ?_ ?_
      · skip
        rcases tf (A.zeq x9 0) with c42 | c42
        · replace hvK52 := cT c42 hvK52
          refine AWp.rd hT hA { tk := [31] } rfl (by (repeat (cbv; simp only [c42])); first | done | cbv) (by kernel_rfl) (lb rfl) ?_
          cases soI hvK52
          exact oNi ⟨rfl, (by first | (cbv; done) | ((repeat (cbv; simp only [c42])); first | done | cbv))⟩
        · replace hvK52 := cF c42 hvK52
          obtain ⟨a43, e44, hvK52⟩ := bindS hvK52
          obtain ⟨f45, f46⟩ := gtI e44
          obtain ⟨a47, e48, hvK52⟩ := bindS hvK52
          obtain ⟨f49, f50⟩ := gtI e48
          refine AWp.rd hT hA { tk := [31] } rfl (by (repeat (cbv; simp only [c42, f45, f46, f49, f50])); first | done | cbv) (by kernel_rfl) (lb rfl) ?_
          cases soI hvK52
          exact oNi ⟨rfl, (by first | (cbv; done) | ((repeat (cbv; simp only [c42])); first | done | cbv))⟩
      · rintro _ rfl
        refine nT ?_
        refine AWp.ret ?_
        cases soI h
        exact ⟨rfl, rfl, rfl, lb rfl, _, rfl⟩

theorem H125aw {A : Ar} (hA : A = Ar.std) {self31 : Int → Int → Int → (List (D × D)) → List D → List D → (Option (Int × List (D × D)))} (ih31 : ∀ {x1 : Int} {x2 : Int} {x3 : Int} {x4 : List (D × D)} {x5 : List D} {x6 : List D} {y1 : Int} {y2 : List (D × D)}, self31 x1 x2 x3 x4 x5 x6 = some (y1, y2) → ACall Try.prog 74 [(.ptr 1 0), (.d (.agg [(.int .u8 x1), (.int .i64 x2), (.int .i64 x3)]))] [(.map true [.int .u8, .int .i64, .int .i64] x4), (.cells [(.d (.list 4 x5)), (.d (.list 6 x6)), (.func 66 [] []), (.map 0)])] (.d (.int .i64 y1)) [(.map true [.int .u8, .int .i64, .int .i64] y2), (.cells [(.d (.list 4 x5)), (.d (.list 6 x6)), (.func 66 [] []), (.map 0)])]) {x1 : List (D × D)} {x2 : List D} {x3 : List D} {x4 : Int} {x5 : Int} {x6 : Int} {x7 : Int} {v155 : List (D × D)} {v156 : Int} (h : H125a A self31 x1 x2 x3 x4 x5 x6 x7 = some (v155, v156)) : ACall Try.prog 125 [(.yield 6), (.ptr 4 0), (.ptr 5 0)] [(.map true [.int .u8, .int .i64, .int .i64] x1), (.cells [(.d (.list 4 x2)), (.d (.list 6 x3)), (.func 66 [] []), (.map 0)]), (.cells [(.ptr 1 0)]), (.cells [(.d (.int .i64 x4))]), (.cells [(.ptr 1 0)]), (.cells [(.d (.int .u8 x5)), (.d (.int .i64 x6)), (.d (.int .i64 x7))]), (.loop { st := .ready, pending := none, env := [(2, (.ptr 2 0)), (7, (.ptr 3 0))], n := 41, params := #[27, 28], assign := HA74r0, body := HB74r0 })] (.tuple []) [(.map true [.int .u8, .int .i64, .int .i64] v155), (.cells [(.d (.list 4 x2)), (.d (.list 6 x3)), (.func 66 [] []), (.map 0)]), (.cells [(.ptr 1 0)]), (.cells [(.d (.int .i64 v156))]), (.cells [(.ptr 1 0)]), (.cells [(.d (.int .u8 x5)), (.d (.int .i64 x6)), (.d (.int .i64 x7))]), (.loop { st := .ready, pending := none, env := [(2, (.ptr 2 0)), (7, (.ptr 3 0))], n := 41, params := #[27, 28], assign := HA74r0, body := HB74r0 })] := by
  unfold H125a at h
  refine ACall.enter hT (fn := Try.f125) Try.func125 rfl (by decide) (by simp [Try.f125]) rfl rfl rfl rfl (lb rfl) ?_
  refine AWp.seq ?_
  refine AWp.rg hT hA {} (by cbv) (lb rfl) ?_
  refine nT ?_
  refine AWp.block ?_
  obtain ⟨xK154, hxK154, K154, hK154, hkK154⟩ := bindK h
  refine AWp.cutX 0 [] [] 7 (lb rfl) (fun τ => ∃ v152 v153, K154 (v152, v153) = some (v155, v156) ∧ τ = { env := [], heap := [(.map true [.int .u8, .int .i64, .int .i64] v152), (.cells [(.d (.list 4 x2)), (.d (.list 6 x3)), (.func 66 [] []), (.map 0)]), (.cells [(.ptr 1 0)]), (.cells [(.d (.int .i64 v153))]), (.cells [(.ptr 1 0)]), (.cells [(.d (.int .u8 x5)), (.d (.int .i64 x6)), (.d (.int .i64 x7))]), (.loop { st := .ready, pending := none, env := [(2, (.ptr 2 0)), (7, (.ptr 3 0))], n := 41, params := #[27, 28], assign := HA74r0, body := HB74r0 })], n := 82 }) ?_ ?_
  · skip
    refine AWp.iter hxK154 [0, 1, 2, 14, 15, 16] [] 7 (lb rfl) (fun (v74, v75, v76) => { env := [(0, (.yield 6)), (1, (.ptr 4 0)), (2, (.ptr 5 0)), (14, (.d (.list 6 x3))), (15, (.d (.int .i64 (A.len x3)))), (16, (.d (.int .i64 v74)))], heap := [(.map true [.int .u8, .int .i64, .int .i64] v75), (.cells [(.d (.list 4 x2)), (.d (.list 6 x3)), (.func 66 [] []), (.map 0)]), (.cells [(.ptr 1 0)]), (.cells [(.d (.int .i64 v76))]), (.cells [(.ptr 1 0)]), (.cells [(.d (.int .u8 x5)), (.d (.int .i64 x6)), (.d (.int .i64 x7))]), (.loop { st := .ready, pending := none, env := [(2, (.ptr 2 0)), (7, (.ptr 3 0))], n := 41, params := #[27, 28], assign := HA74r0, body := HB74r0 })], n := 82 }) ⟨rfl, (by cbv)⟩ ?_
    rintro ⟨v74, v75, v76⟩ eK154 hsK154
    dsimp only [H125aL1] at hsK154
    refine AWp.seq ?_
    refine AWp.rg hT hA {} (by cbv) (lb rfl) ?_
    refine nT ?_
    refine AWp.seq ?_
    rcases tf (A.zlt v74 (A.len x3)) with c77 | c77
    · replace hsK154 := cT c77 hsK154
      refine AWp.cdT rfl (by first | rfl | simp only [c77, Bool.not_true, Bool.not_false, cond_true, cond_false]) ?_
      refine AWp.skip ?_
      refine nT ?_
      refine AWp.seq ?_
      obtain ⟨⟨v149, v150⟩, hvK151, hsK154⟩ := bindS hsK154
      refine AWp.cutN [0, 1, 2, 14, 15, 16] [] 7 (lb rfl) (fun τ => τ = { env := [(0, (.yield 6)), (1, (.ptr 4 0)), (2, (.ptr 5 0)), (14, (.d (.list 6 x3))), (15, (.d (.int .i64 (A.len x3)))), (16, (.d (.int .i64 v74)))], heap := [(.map true [.int .u8, .int .i64, .int .i64] v149), (.cells [(.d (.list 4 x2)), (.d (.list 6 x3)), (.func 66 [] []), (.map 0)]), (.cells [(.ptr 1 0)]), (.cells [(.d (.int .i64 v150))]), (.cells [(.ptr 1 0)]), (.cells [(.d (.int .u8 x5)), (.d (.int .i64 x6)), (.d (.int .i64 x7))]), (.loop { st := .ready, pending := none, env := [(2, (.ptr 2 0)), (7, (.ptr 3 0))], n := 41, params := #[27, 28], assign := HA74r0, body := HB74r0 })], n := 82 }) ?_ ?_
      · skip
        refine AWp.block ?_
        refine AWp.seq ?_
        obtain ⟨⟨a78, a79, a80, a81, a82, a83⟩, e84, hvK151⟩ := bindS hvK151
        obtain ⟨f85, f86⟩ := gtI e84
        refine AWp.rg hT hA { tk := [20] } (by (repeat (cbv; simp only [c77, f85, f86])); first | done | cbv) (lb rfl) ?_
        refine nT ?_
        refine AWp.seq ?_
        refine AWp.region ?_
        obtain ⟨r88, e87, hvK151⟩ := bindS hvK151
        refine AOps.cc hT hA {} (by (repeat (cbv; simp only [c77])); first | done | cbv) (lb rfl) (H124aw hA e87) rfl (.inr rfl) rfl rfl rfl (lb rfl) rfl rfl ?_
        refine AOps.cd hT hA {} (by (repeat (cbv; simp only [c77])); first | done | cbv) (lb rfl) ?_
        refine nT ?_
        refine AWp.seq ?_
        refine AWp.seq ?_
        refine AWp.rg hT hA {} (by (repeat (cbv; simp only [c77])); first | done | cbv) (lb rfl) ?_
        refine nT ?_
        refine AWp.block ?_
        obtain ⟨xK128, hxK128, K128, hK128, hkK128⟩ := bindK hvK151
        refine AWp.cutX 2 [0, 1, 2, 4, 5, 6, 14, 15, 16] [] 7 (lb rfl) (fun τ => ∃ v127, K128 v127 = some (v149, v150) ∧ τ = { env := [(0, (.yield 6)), (1, (.ptr 4 0)), (2, (.ptr 5 0)), (4, (.d (.int .i64 v74))), (5, (.lbox [(.d (.int .i64 a78)), (.d (.int .i64 a79)), (.d (.int .i64 a80)), (.d (.int .i64 a81)), (.d (.int .i64 a82)), (.d (.int .i64 a83))])), (6, (.d (.bool v127))), (14, (.d (.list 6 x3))), (15, (.d (.int .i64 (A.len x3)))), (16, (.d (.int .i64 v74)))], heap := [(.map true [.int .u8, .int .i64, .int .i64] v75), (.cells [(.d (.list 4 x2)), (.d (.list 6 x3)), (.func 66 [] []), (.map 0)]), (.cells [(.ptr 1 0)]), (.cells [(.d (.int .i64 v76))]), (.cells [(.ptr 1 0)]), (.cells [(.d (.int .u8 x5)), (.d (.int .i64 x6)), (.d (.int .i64 x7))]), (.loop { st := .ready, pending := none, env := [(2, (.ptr 2 0)), (7, (.ptr 3 0))], n := 41, params := #[27, 28], assign := HA74r0, body := HB74r0 })], n := 82 }) ?_ ?_
        · skip
          refine AWp.iter hxK128 [0, 1, 2, 4, 5, 6, 14, 15, 16, 29, 30, 31] [] 7 (lb rfl) (fun (v107, v108) => { env := [(0, (.yield 6)), (1, (.ptr 4 0)), (2, (.ptr 5 0)), (4, (.d (.int .i64 v74))), (5, (.lbox [(.d (.int .i64 a78)), (.d (.int .i64 a79)), (.d (.int .i64 a80)), (.d (.int .i64 a81)), (.d (.int .i64 a82)), (.d (.int .i64 a83))])), (6, (.d (.bool v107))), (14, (.d (.list 6 x3))), (15, (.d (.int .i64 (A.len x3)))), (16, (.d (.int .i64 v74))), (29, (.d (.list 6 x3))), (30, (.d (.int .i64 (A.len x3)))), (31, (.d (.int .i64 v108)))], heap := [(.map true [.int .u8, .int .i64, .int .i64] v75), (.cells [(.d (.list 4 x2)), (.d (.list 6 x3)), (.func 66 [] []), (.map 0)]), (.cells [(.ptr 1 0)]), (.cells [(.d (.int .i64 v76))]), (.cells [(.ptr 1 0)]), (.cells [(.d (.int .u8 x5)), (.d (.int .i64 x6)), (.d (.int .i64 x7))]), (.loop { st := .ready, pending := none, env := [(2, (.ptr 2 0)), (7, (.ptr 3 0))], n := 41, params := #[27, 28], assign := HA74r0, body := HB74r0 })], n := 82 }) ⟨rfl, (by first | (cbv; done) | ((repeat (cbv; simp only [c77])); first | done | cbv))⟩ ?_
          rintro ⟨v107, v108⟩ eK128 hsK128
          dsimp only [H125aL0] at hsK128
          refine AWp.seq ?_
          refine AWp.rg hT hA {} (by cbv) (lb rfl) ?_
          refine nT ?_
          refine AWp.seq ?_
          rcases tf (A.zlt v108 (A.len x3)) with c109 | c109
          · replace hsK128 := cT c109 hsK128
            refine AWp.cdT rfl (by first | rfl | simp only [c109, Bool.not_true, Bool.not_false, cond_true, cond_false]) ?_
            refine AWp.skip ?_
            refine nT ?_
            refine AWp.seq ?_
            refine AWp.block ?_
            refine AWp.seq ?_
            obtain ⟨⟨a110, a111, a112, a113, a114, a115⟩, e116, hsK128⟩ := bindS hsK128
            obtain ⟨f117, f118⟩ := gtI e116
            refine AWp.rg hT hA { tk := [35] } (by (repeat (cbv; simp only [c109, f117, f118])); first | done | cbv) (lb rfl) ?_
            refine nT ?_
            obtain ⟨v125, hvK126, hsK128⟩ := bindS hsK128
            refine AWp.cutN [0, 1, 2, 4, 5, 6, 14, 15, 16, 29, 30, 31] [] 7 (lb rfl) (fun τ => τ = { env := [(0, (.yield 6)), (1, (.ptr 4 0)), (2, (.ptr 5 0)), (4, (.d (.int .i64 v74))), (5, (.lbox [(.d (.int .i64 a78)), (.d (.int .i64 a79)), (.d (.int .i64 a80)), (.d (.int .i64 a81)), (.d (.int .i64 a82)), (.d (.int .i64 a83))])), (6, (.d (.bool v125))), (14, (.d (.list 6 x3))), (15, (.d (.int .i64 (A.len x3)))), (16, (.d (.int .i64 v74))), (29, (.d (.list 6 x3))), (30, (.d (.int .i64 (A.len x3)))), (31, (.d (.int .i64 v108)))], heap := [(.map true [.int .u8, .int .i64, .int .i64] v75), (.cells [(.d (.list 4 x2)), (.d (.list 6 x3)), (.func 66 [] []), (.map 0)]), (.cells [(.ptr 1 0)]), (.cells [(.d (.int .i64 v76))]), (.cells [(.ptr 1 0)]), (.cells [(.d (.int .u8 x5)), (.d (.int .i64 x6)), (.d (.int .i64 x7))]), (.loop { st := .ready, pending := none, env := [(2, (.ptr 2 0)), (7, (.ptr 3 0))], n := 41, params := #[27, 28], assign := HA74r0, body := HB74r0 })], n := 82 }) ?_ ?_
            · skip
              refine AWp.regionDraw rfl (lb rfl) ?_
              rcases tf v107 with c119 | c119
              · replace hvK126 := cT c119 hvK126
                obtain ⟨r121, e120, hvK126⟩ := bindS hvK126
                refine DOps.c0 hT hA {} rfl (by (repeat (cbv; simp only [c109, c119])); first | done | cbv) (H124aw hA e120) rfl rfl (lb rfl) rfl rfl ?_
                rcases tf r121 with c122 | c122
                · replace hvK126 := cT c122 hvK126
                  refine DOps.cd hT hA {} rfl (by (repeat (cbv; simp only [c109, c119, c122])); first | done | cbv) (by kernel_rfl) ?_
                  cases soI hvK126
                  exact oNi ⟨rfl, (by first | (cbv; done) | ((repeat (cbv; simp only [c109, c119, c122])); first | done | cbv))⟩
                · replace hvK126 := cF c122 hvK126
                  obtain ⟨r124, e123, hvK126⟩ := bindS hvK126
                  refine DOps.c0 hT hA {} rfl (by (repeat (cbv; simp only [c109, c119, c122])); first | done | cbv) (H66w hA e123) rfl rfl (lb rfl) rfl rfl ?_
                  refine DOps.cd hT hA {} rfl (by (repeat (cbv; simp only [c109, c119, c122])); first | done | cbv) (by kernel_rfl) ?_
                  cases soI hvK126
                  exact oNi ⟨rfl, (by first | (cbv; done) | ((repeat (cbv; simp only [c109, c119, c122])); first | done | cbv))⟩
              · replace hvK126 := cF c119 hvK126
                refine DOps.cd hT hA {} rfl (by (repeat (cbv; simp only [c109, c119])); first | done | cbv) (by kernel_rfl) ?_
                cases soI hvK126
                exact oNi ⟨rfl, (by first | (cbv; done) | ((repeat (cbv; simp only [c109, c119])); first | done | cbv))⟩
            · rintro _ rfl
              refine nB ?_
              refine nT ?_
              refine AWp.rg hT hA {} (by cbv) (lb rfl) ?_
              exact nT ⟨_, (soI hsK128).symm, rfl, (by cbv)⟩
          · replace hsK128 := cF c109 hsK128
            refine AWp.cdF rfl (by first | rfl | simp only [c109, Bool.not_true, Bool.not_false, cond_true, cond_false]) ?_
            refine AWp.exit ?_
            refine xT ?_
            refine xT ?_
            refine exL hsK128 fun hx => ?_
            subst hx
            exact oxI ⟨rfl, _, hkK128, (by first | (cbv; done) | ((repeat (cbv; simp only [c109])); first | done | cbv))⟩
        · rintro _ ⟨v127, hkK128, rfl⟩
          have hvK151 := (hK128 _ hkK128)
          refine xB ?_
          refine nT ?_
          refine AWp.seq ?_
          refine AWp.seq ?_
          refine AWp.rg hT hA {} (by cbv) (lb rfl) ?_
          refine nT ?_
          rcases tf v127 with c129 | c129
          · replace hvK151 := cT c129 hvK151
            refine AWp.cdF rfl (by first | rfl | simp only [c129, Bool.not_true, Bool.not_false, cond_true, cond_false]) ?_
            refine AWp.skip ?_
            refine nT ?_
            refine AWp.seq ?_
            refine AWp.regionDraw rfl (lb rfl) ?_
            obtain ⟨⟨r131, r132, r133⟩, e130, hvK151⟩ := bindS hvK151
            refine DOps.c0 hT hA { tk := [65] } rfl (by (repeat (cbv; simp only [c129])); first | done | cbv) (H78aw hA e130) rfl rfl (lb rfl) rfl rfl ?_
            refine DOps.cd hT hA { tk := [65] } rfl (by (repeat (cbv; simp only [c129])); first | done | cbv) (by kernel_rfl) ?_
            refine nT ?_
            refine AWp.seq ?_
            obtain ⟨⟨v146, v147⟩, hvK148, hvK151⟩ := bindS hvK151
            refine AWp.cutN [0, 1, 2, 14, 15, 16, 80] [] 7 (lb rfl) (fun τ => τ = { env := [(0, (.yield 6)), (1, (.ptr 4 0)), (2, (.ptr 5 0)), (14, (.d (.list 6 x3))), (15, (.d (.int .i64 (A.len x3)))), (16, (.d (.int .i64 v74))), (80, (.d (.bool false)))], heap := [(.map true [.int .u8, .int .i64, .int .i64] v146), (.cells [(.d (.list 4 x2)), (.d (.list 6 x3)), (.func 66 [] []), (.map 0)]), (.cells [(.ptr 1 0)]), (.cells [(.d (.int .i64 v147))]), (.cells [(.ptr 1 0)]), (.cells [(.d (.int .u8 x5)), (.d (.int .i64 x6)), (.d (.int .i64 x7))]), (.loop { st := .ready, pending := none, env := [(2, (.ptr 2 0)), (7, (.ptr 3 0))], n := 41, params := #[27, 28], assign := HA74r0, body := HB74r0 })], n := 82 }) ?_ ?_
            · skip
              refine AWp.regionDraw rfl (lb rfl) ?_
              rcases tf r133 with c134 | c134
              · replace hvK148 := cT c134 hvK148
                obtain ⟨_, e135, hvK148⟩ := bindS hvK148
                have f136 := nkI e135
                obtain ⟨q144, hr145, hvK148⟩ := bindS hvK148
                obtain ⟨v142, v143⟩ := q144
                have y141 : YCall Try.prog 6 [(.d (.int .i64 v74)), (.d (.agg [(.int .u8 (A.bits .or .u8 x5 (A.shl .u8 1 v74))), (.int .i64 r131), (.int .i64 r132)]))] [(.map true [.int .u8, .int .i64, .int .i64] v75), (.cells [(.d (.list 4 x2)), (.d (.list 6 x3)), (.func 66 [] []), (.map 0)]), (.cells [(.ptr 1 0)]), (.cells [(.d (.int .i64 v76))]), (.cells [(.ptr 1 0)]), (.cells [(.d (.int .u8 x5)), (.d (.int .i64 x6)), (.d (.int .i64 x7))]), (.loop { st := .ready, pending := none, env := [(2, (.ptr 2 0)), (7, (.ptr 3 0))], n := 41, params := #[27, 28], assign := HA74r0, body := HB74r0 })] (.d (.bool true)) [(.map true [.int .u8, .int .i64, .int .i64] v142), (.cells [(.d (.list 4 x2)), (.d (.list 6 x3)), (.func 66 [] []), (.map 0)]), (.cells [(.ptr 1 0)]), (.cells [(.d (.int .i64 v143))]), (.cells [(.ptr 1 0)]), (.cells [(.d (.int .u8 x5)), (.d (.int .i64 x6)), (.d (.int .i64 x7))]), (.loop { st := .ready, pending := none, env := [(2, (.ptr 2 0)), (7, (.ptr 3 0))], n := 41, params := #[27, 28], assign := HA74r0, body := HB74r0 })] := by
                  refine YCall.mk rfl rfl rfl rfl rfl rfl (lb rfl) ?_
                  dsimp only [HA74r0, HB74r0, cAt, Try.f74, Option.getD]
                  refine AWp.rg hT hA { tk := [28] } (by cbv) (lb rfl) ?_
                  refine ⟨rfl, rfl, ?_⟩
                  refine AWp.block ?_
                  refine AWp.regionDraw rfl (lb rfl) ?_
                  obtain ⟨⟨r139, r140⟩, e138, hr145⟩ := bindS hr145
                  refine DOps.cl hT hA { tk := [33] } rfl (by cbv) (ih31 e138) rfl rfl rfl rfl rfl (lb rfl) rfl rfl ?_
                  refine DOps.cd hT hA { tk := [33] } rfl (by cbv) (by kernel_rfl) ?_
                  refine nB ?_
                  cases soI hr145
                  exact ⟨rfl, rfl, _, rfl⟩
                refine DOps.cy hT hA {} rfl (by (repeat (cbv; simp only [c129, c134, f136])); first | done | cbv) y141 rfl (.inl rfl) rfl rfl rfl (lb rfl) rfl rfl ?_
                refine DOps.cd hT hA {} rfl (by (repeat (cbv; simp only [c129, c134, f136])); first | done | cbv) (by kernel_rfl) ?_
                cases soI hvK148
                exact oNi ⟨rfl, (by first | (cbv; done) | ((repeat (cbv; simp only [c129, c134])); first | done | cbv))⟩
              · replace hvK148 := cF c134 hvK148
                refine DOps.cd hT hA {} rfl (by (repeat (cbv; simp only [c129, c134])); first | done | cbv) (by kernel_rfl) ?_
                cases soI hvK148
                exact oNi ⟨rfl, (by first | (cbv; done) | ((repeat (cbv; simp only [c129, c134])); first | done | cbv))⟩
            · rintro _ rfl
              refine nT ?_
              refine AWp.cdF rfl (by first | rfl | simp only [Bool.not_true, Bool.not_false, cond_true, cond_false]) ?_
              refine AWp.skip ?_
              refine nB ?_
              cases soI hvK151
              exact oNi ⟨rfl, (by cbv)⟩
          · replace hvK151 := cF c129 hvK151
            refine AWp.cdT rfl (by first | rfl | simp only [c129, Bool.not_true, Bool.not_false, cond_true, cond_false]) ?_
            refine AWp.exit ?_
            refine xT ?_
            refine xB ?_
            cases soI hvK151
            exact oNi ⟨rfl, (by first | (cbv; done) | ((repeat (cbv; simp only [c129])); first | done | cbv))⟩
      · rintro _ rfl
        refine nT ?_
        refine AWp.rg hT hA {} (by cbv) (lb rfl) ?_
        exact nT ⟨_, (soI hsK154).symm, rfl, (by cbv)⟩
    · replace hsK154 := cF c77 hsK154
      refine AWp.cdF rfl (by first | rfl | simp only [c77, Bool.not_true, Bool.not_false, cond_true, cond_false]) ?_
      refine AWp.exit ?_
      refine xT ?_
      refine xT ?_
      refine exL hsK154 fun hx => ?_
      subst hx
      exact oxI ⟨rfl, _, _, hkK154, (by first | (cbv; done) | ((repeat (cbv; simp only [c77])); first | done | cbv))⟩
  · rintro _ ⟨v152, v153, hkK154, rfl⟩
    have h := (hK154 _ hkK154)
    refine xB ?_
    cases soI h
    exact ⟨rfl, rfl, rfl, lb rfl, _, rfl⟩

theorem H74Bw {A : Ar} (hA : A = Ar.std) {self31 : Int → Int → Int → (List (D × D)) → List D → List D → (Option (Int × List (D × D)))} (ih31 : ∀ {x1 : Int} {x2 : Int} {x3 : Int} {x4 : List (D × D)} {x5 : List D} {x6 : List D} {y1 : Int} {y2 : List (D × D)}, self31 x1 x2 x3 x4 x5 x6 = some (y1, y2) → ACall Try.prog 74 [(.ptr 1 0), (.d (.agg [(.int .u8 x1), (.int .i64 x2), (.int .i64 x3)]))] [(.map true [.int .u8, .int .i64, .int .i64] x4), (.cells [(.d (.list 4 x5)), (.d (.list 6 x6)), (.func 66 [] []), (.map 0)])] (.d (.int .i64 y1)) [(.map true [.int .u8, .int .i64, .int .i64] y2), (.cells [(.d (.list 4 x5)), (.d (.list 6 x6)), (.func 66 [] []), (.map 0)])]) {x1 : Int} {x2 : Int} {x3 : Int} {x4 : List (D × D)} {x5 : List D} {x6 : List D} {v27 : Int} {v28 : List (D × D)} (h : H74B A self31 x1 x2 x3 x4 x5 x6 = some (v27, v28)) : ACall Try.prog 74 [(.ptr 1 0), (.d (.agg [(.int .u8 x1), (.int .i64 x2), (.int .i64 x3)]))] [(.map true [.int .u8, .int .i64, .int .i64] x4), (.cells [(.d (.list 4 x5)), (.d (.list 6 x6)), (.func 66 [] []), (.map 0)])] (.d (.int .i64 v27)) [(.map true [.int .u8, .int .i64, .int .i64] v28), (.cells [(.d (.list 4 x5)), (.d (.list 6 x6)), (.func 66 [] []), (.map 0)])] := by
  unfold H74B at h
  refine ACall.enterT hT (fn := Try.f74) Try.func74 rfl (by decide) (by simp [Try.f74]) rfl rfl rfl rfl (lb rfl) ?_
  refine AWpT.seq ?_
  refine AWpT.of ?_
  refine AWp.rg hT hA { esc := [2] } (by cbv) (lb rfl) ?_
  refine nT ?_
  refine AWpT.seq ?_
  refine AWpT.of ?_
  refine AWp.seq ?_
  obtain ⟨⟨v11, v12⟩, hvK13, h⟩ := bindS h
  refine AWp.cutN [2, 3, 5, 6] [] 3 (lb rfl) (fun τ => τ = { env := [(2, (.ptr 2 0)), (3, (.lbox [(.d (.int .u8 x1)), (.d (.int .i64 x2)), (.d (.int .i64 x3))])), (5, (.d (.int .i64 v11))), (6, (.d (.bool v12)))], heap := [(.map true [.int .u8, .int .i64, .int .i64] x4), (.cells [(.d (.list 4 x5)), (.d (.list 6 x6)), (.func 66 [] []), (.map 0)]), (.cells [(.ptr 1 0)])], n := 41 }) ?_ ?_
  · skip
    obtain ⟨o10, e8, hvK13⟩ := bindS hvK13
    rcases o10 with _ | a7
    · have f9 := lkN e8
      refine AWp.rd hT hA { tk := [17] } rfl (by (repeat (cbv; simp only [f9])); first | done | cbv) (by kernel_rfl) (lb rfl) ?_
      cases soI hvK13
      exact oNi ⟨rfl, (by cbv)⟩
    · have f9 := lkS e8
      refine AWp.rd hT hA { tk := [17] } rfl (by (repeat (cbv; simp only [f9])); first | done | cbv) (by kernel_rfl) (lb rfl) ?_
      cases soI hvK13
      exact oNi ⟨rfl, (by cbv)⟩
  · rintro _ rfl
    refine nT ?_
    refine AWp.seq ?_
    refine AWp.rg hT hA {} (by cbv) (lb rfl) ?_
    refine nT ?_
    rcases tf v12 with c14 | c14
    · replace h := cT c14 h
      refine AWp.cdT rfl (by first | rfl | simp only [c14, Bool.not_true, Bool.not_false, cond_true, cond_false]) ?_
      refine AWp.seq ?_
      refine AWp.rg hT hA { tk := [5, 20] } (by (repeat (cbv; simp only [c14])); first | done | cbv) (lb rfl) ?_
      refine nT ?_
      refine AWp.ret ?_
      refine rT ?_
      cases soI h
      exact ⟨rfl, rfl, rfl, lb rfl, _, rfl⟩
    · replace h := cF c14 h
      refine AWp.cdF rfl (by first | rfl | simp only [c14, Bool.not_true, Bool.not_false, cond_true, cond_false]) ?_
      refine AWp.skip ?_
      refine nT ?_
      refine AWpT.seq ?_
      refine AWpT.of ?_
      refine AWp.rg hT hA { esc := [7] } (by (repeat (cbv; simp only [c14])); first | done | cbv) (lb rfl) ?_
      refine nT ?_
      refine AWpT.seq ?_
      refine AWpT.of ?_
      refine AWp.seq ?_
      refine AWp.region ?_
      obtain ⟨r16, e15, h⟩ := bindS h
      refine AOps.cc hT hA {} (by (repeat (cbv; simp only [c14])); first | done | cbv) (lb rfl) (H115aw hA e15) rfl (.inr rfl) rfl rfl rfl (lb rfl) rfl rfl ?_
      refine AOps.cd hT hA {} (by (repeat (cbv; simp only [c14])); first | done | cbv) (lb rfl) ?_
      refine nT ?_
      obtain ⟨v18, hvK19, h⟩ := bindS h
      refine AWp.cutN [2, 3, 7] [] 4 (lb rfl) (fun τ => τ = { env := [(2, (.ptr 2 0)), (3, (.lbox [(.d (.int .u8 x1)), (.d (.int .i64 x2)), (.d (.int .i64 x3))])), (7, (.ptr 3 0))], heap := [(.map true [.int .u8, .int .i64, .int .i64] x4), (.cells [(.d (.list 4 x5)), (.d (.list 6 x6)), (.func 66 [] []), (.map 0)]), (.cells [(.ptr 1 0)]), (.cells [(.d (.int .i64 v18))])], n := 41 }) ?_ ?_
      · skip
        rcases tf r16 with c17 | c17
        · replace hvK19 := cT c17 hvK19
          refine AWp.cdT rfl (by first | rfl | simp only [c14, c17, Bool.not_true, Bool.not_false, cond_true, cond_false]) ?_
          refine AWp.rg hT hA {} (by (repeat (cbv; simp only [c14, c17])); first | done | cbv) (lb rfl) ?_
          cases soI hvK19
          exact oNi ⟨rfl, (by first | (cbv; done) | ((repeat (cbv; simp only [c14, c17])); first | done | cbv))⟩
        · replace hvK19 := cF c17 hvK19
          refine AWp.cdF rfl (by first | rfl | simp only [c14, c17, Bool.not_true, Bool.not_false, cond_true, cond_false]) ?_
          refine AWp.skip ?_
          cases soI hvK19
          exact oNi ⟨rfl, (by first | (cbv; done) | ((repeat (cbv; simp only [c14, c17])); first | done | cbv))⟩
      · rintro _ rfl
        refine nT ?_
        refine AWpT.seq ?_
        refine AWpT.seq ?_
        refine AWpT.of ?_
        refine AWp.region ?_
        obtain ⟨⟨r21, r22, r23⟩, e20, h⟩ := bindS h
        refine AOps.cc hT hA {} (by cbv) (lb rfl) (H116cw hA e20) rfl (.inl rfl) rfl rfl rfl (lb rfl) rfl rfl ?_
        refine AOps.cd hT hA {} (by cbv) (lb rfl) ?_
        refine nT ?_
        refine AWpT.block ?_
        obtain ⟨⟨r25, r26⟩, e24, h⟩ := bindS h
        refine AWpT.rangeFunc [2, 7] (H' := [(.map true [.int .u8, .int .i64, .int .i64] r25), (.cells [(.d (.list 4 x5)), (.d (.list 6 x6)), (.func 66 [] []), (.map 0)]), (.cells [(.ptr 1 0)]), (.cells [(.d (.int .i64 r26))]), (.cells [(.ptr 1 0)]), (.cells [(.d (.int .u8 r21)), (.d (.int .i64 r22)), (.d (.int .i64 r23))]), (.loop { st := .ready, pending := none, env := [(2, (.ptr 2 0)), (7, (.ptr 3 0))], n := 41, params := #[27, 28], assign := HA74r0, body := HB74r0 })]) rfl (lb rfl) rfl rfl rfl (H125aw hA ih31 e24) (st := .ready) (by decide) rfl ?_
        refine bN ?_
        refine nB ?_
        refine nT ?_
        refine AWpT.of ?_
        refine AWp.seq ?_
        refine AWp.rd hT hA {} rfl (by cbv) (by kernel_rfl) (lb rfl) ?_
        refine nT ?_
        refine AWp.seq ?_
        refine AWp.rg hT hA { tk := [40] } (by cbv) (lb rfl) ?_
        refine nT ?_
        refine AWp.ret ?_
        cases soI h
        exact ⟨rfl, rfl, rfl, lb rfl, _, rfl⟩

theorem H74Rw {A : Ar} (hA : A = Ar.std) : ∀ (n : Nat) {x1 : Int} {x2 : Int} {x3 : Int} {x4 : List (D × D)} {x5 : List D} {x6 : List D} {v27 : Int} {v28 : List (D × D)}, H74R A n x1 x2 x3 x4 x5 x6 = some (v27, v28) → ACall Try.prog 74 [(.ptr 1 0), (.d (.agg [(.int .u8 x1), (.int .i64 x2), (.int .i64 x3)]))] [(.map true [.int .u8, .int .i64, .int .i64] x4), (.cells [(.d (.list 4 x5)), (.d (.list 6 x6)), (.func 66 [] []), (.map 0)])] (.d (.int .i64 v27)) [(.map true [.int .u8, .int .i64, .int .i64] v28), (.cells [(.d (.list 4 x5)), (.d (.list 6 x6)), (.func 66 [] []), (.map 0)])]
  | 0, _, _, _, _, _, _, _, _, h => by cases h
  | n + 1, _, _, _, _, _, _, _, _, h => H74Bw hA (fun h => H74Rw hA n h) h

theorem H74w {A : Ar} (hA : A = Ar.std) {x1 : Int} {x2 : Int} {x3 : Int} {x4 : List (D × D)} {x5 : List D} {x6 : List D} {v27 : Int} {v28 : List (D × D)} (h : H74 A x1 x2 x3 x4 x5 x6 = some (v27, v28)) : ACall Try.prog 74 [(.ptr 1 0), (.d (.agg [(.int .u8 x1), (.int .i64 x2), (.int .i64 x3)]))] [(.map true [.int .u8, .int .i64, .int .i64] x4), (.cells [(.d (.list 4 x5)), (.d (.list 6 x6)), (.func 66 [] []), (.map 0)])] (.d (.int .i64 v27)) [(.map true [.int .u8, .int .i64, .int .i64] v28), (.cells [(.d (.list 4 x5)), (.d (.list 6 x6)), (.func 66 [] []), (.map 0)])] := H74Rw hA fuel h

theorem H116dw {A : Ar} (hA : A = Ar.std) {x1 : Int} {x2 : Int} {x3 : Int} {x4 : List (D × D)} {x5 : List D} {x6 : List D} {x7 : Int} {x8 : Int} {x9 : Int} {x10 : List D} {v11 : Int} {v12 : Int} {v13 : Int} (h : H116d A x1 x2 x3 x4 x5 x6 x7 x8 x9 x10 = some (v11, v12, v13)) : ACall Try.prog 116 [(.ptr 1 0), (.d (.agg [(.int .u8 x1), (.int .i64 x2), (.int .i64 x3)]))] [(.map true [.int .u8, .int .i64, .int .i64] x4), (.cells [(.d (.list 4 x5)), (.d (.list 6 x6)), (.func 66 [] []), (.map 0)]), (.cells [(.ptr 1 0)]), (.cells [(.d (.int .u8 x7)), (.d (.int .i64 x8)), (.d (.int .i64 x9))]), (.cells [(.own 1 x10)])] (.func 125 [] [(.ptr 5 0), (.ptr 6 0)]) [(.map true [.int .u8, .int .i64, .int .i64] x4), (.cells [(.d (.list 4 x5)), (.d (.list 6 x6)), (.func 66 [] []), (.map 0)]), (.cells [(.ptr 1 0)]), (.cells [(.d (.int .u8 x7)), (.d (.int .i64 x8)), (.d (.int .i64 x9))]), (.cells [(.own 1 x10)]), (.cells [(.ptr 1 0)]), (.cells [(.d (.int .u8 v11)), (.d (.int .i64 v12)), (.d (.int .i64 v13))])] := by
  unfold H116d at h
  refine ACall.enter hT (fn := Try.f116) Try.func116 rfl (by decide) (by simp [Try.f116]) rfl rfl rfl rfl (lb rfl) ?_
  refine AWp.seq ?_
  refine AWp.rg hT hA { esc := [2, 3] } (by cbv) (lb rfl) ?_
  refine nT ?_
  refine AWp.seq ?_
  refine AWp.rg hT hA { tk := [5] } (by cbv) (lb rfl) ?_
  refine nT ?_
  refine AWp.ret ?_
  cases soI h
  exact ⟨rfl, rfl, rfl, lb rfl, _, rfl⟩

theorem H125bwa {A : Ar} (hA : A = Ar.std) {x1 : List (D × D)} {x2 : List D} {x3 : List D} {x4 : Int} {x5 : Int} {x6 : Int} {x7 : List D} {x8 : Int} {x9 : Int} {x10 : Int} {v183 : List (D × D)} (h : H125b A x1 x2 x3 x4 x5 x6 x7 x8 x9 x10 = some (.inl v183)) : ACall Try.prog 125 [(.yield 7), (.ptr 5 0), (.ptr 6 0)] [(.map true [.int .u8, .int .i64, .int .i64] x1), (.cells [(.d (.list 4 x2)), (.d (.list 6 x3)), (.func 66 [] []), (.map 0)]), (.cells [(.ptr 1 0)]), (.cells [(.d (.int .u8 x4)), (.d (.int .i64 x5)), (.d (.int .i64 x6))]), (.cells [(.own 1 x7)]), (.cells [(.ptr 1 0)]), (.cells [(.d (.int .u8 x8)), (.d (.int .i64 x9)), (.d (.int .i64 x10))]), (.loop { st := .ready, pending := none, env := [(2, (.ptr 2 0)), (3, (.ptr 3 0)), (6, (.ptr 4 0))], n := 32, params := #[20, 21], assign := HA92r0, body := HB92r0 })] (.tuple []) [(.map true [.int .u8, .int .i64, .int .i64] v183), (.cells [(.d (.list 4 x2)), (.d (.list 6 x3)), (.func 66 [] []), (.map 0)]), (.cells [(.ptr 1 0)]), (.cells [(.d (.int .u8 x4)), (.d (.int .i64 x5)), (.d (.int .i64 x6))]), (.cells [(.own 1 x7)]), (.cells [(.ptr 1 0)]), (.cells [(.d (.int .u8 x8)), (.d (.int .i64 x9)), (.d (.int .i64 x10))]), (.loop { st := .ready, pending := none, env := [(2, (.ptr 2 0)), (3, (.ptr 3 0)), (6, (.ptr 4 0))], n := 32, params := #[20, 21], assign := HA92r0, body := HB92r0 })] := by
  unfold H125b at h
  refine ACall.enter hT (fn := Try.f125) Try.func125 rfl (by decide) (by simp [Try.f125]) rfl rfl rfl rfl (lb rfl) ?_
  refine AWp.seq ?_
  refine AWp.rg hT hA {} (by cbv) (lb rfl) ?_
  refine nT ?_
  refine AWp.block ?_
  obtain ⟨xK182, hxK182, K182, hK182, hkK182⟩ := bindK h
  refine AWp.cutX 0 [] [] 8 (lb rfl) (fun τ => ∃ v176, K182 (.inl v176) = some (.inl v183) ∧ τ = { env := [], heap := [(.map true [.int .u8, .int .i64, .int .i64] v176), (.cells [(.d (.list 4 x2)), (.d (.list 6 x3)), (.func 66 [] []), (.map 0)]), (.cells [(.ptr 1 0)]), (.cells [(.d (.int .u8 x4)), (.d (.int .i64 x5)), (.d (.int .i64 x6))]), (.cells [(.own 1 x7)]), (.cells [(.ptr 1 0)]), (.cells [(.d (.int .u8 x8)), (.d (.int .i64 x9)), (.d (.int .i64 x10))]), (.loop { st := .ready, pending := none, env := [(2, (.ptr 2 0)), (3, (.ptr 3 0)), (6, (.ptr 4 0))], n := 32, params := #[20, 21], assign := HA92r0, body := HB92r0 })], n := 82 }) ?_ ?_
  · skip
    refine AWp.iter hxK182 [0, 1, 2, 14, 15, 16] [] 8 (lb rfl) (fun (v88, v89) => { env := [(0, (.yield 7)), (1, (.ptr 5 0)), (2, (.ptr 6 0)), (14, (.d (.list 6 x3))), (15, (.d (.int .i64 (A.len x3)))), (16, (.d (.int .i64 v88)))], heap := [(.map true [.int .u8, .int .i64, .int .i64] v89), (.cells [(.d (.list 4 x2)), (.d (.list 6 x3)), (.func 66 [] []), (.map 0)]), (.cells [(.ptr 1 0)]), (.cells [(.d (.int .u8 x4)), (.d (.int .i64 x5)), (.d (.int .i64 x6))]), (.cells [(.own 1 x7)]), (.cells [(.ptr 1 0)]), (.cells [(.d (.int .u8 x8)), (.d (.int .i64 x9)), (.d (.int .i64 x10))]), (.loop { st := .ready, pending := none, env := [(2, (.ptr 2 0)), (3, (.ptr 3 0)), (6, (.ptr 4 0))], n := 32, params := #[20, 21], assign := HA92r0, body := HB92r0 })], n := 82 }) ⟨rfl, (by cbv)⟩ ?_
    rintro ⟨v88, v89⟩ eK182 hsK182
    dsimp only [H125bL1] at hsK182
    refine AWp.seq ?_
    refine AWp.rg hT hA {} (by cbv) (lb rfl) ?_
    refine nT ?_
    refine AWp.seq ?_
    rcases tf (A.zlt v88 (A.len x3)) with c90 | c90
    · replace hsK182 := cT c90 hsK182
      refine AWp.cdT rfl (by first | rfl | simp only [c90, Bool.not_true, Bool.not_false, cond_true, cond_false]) ?_
      refine AWp.skip ?_
      refine nT ?_
      refine AWp.seq ?_
      obtain ⟨K175, hK175, hsK182⟩ := jnI hsK182
      refine AWp.cutN [0, 1, 2, 14, 15, 16] [] 8 (lb rfl) (fun τ => ∃ v174, K175 v174 = some eK182 ∧ τ = { env := [(0, (.yield 7)), (1, (.ptr 5 0)), (2, (.ptr 6 0)), (14, (.d (.list 6 x3))), (15, (.d (.int .i64 (A.len x3)))), (16, (.d (.int .i64 v88)))], heap := [(.map true [.int .u8, .int .i64, .int .i64] v174), (.cells [(.d (.list 4 x2)), (.d (.list 6 x3)), (.func 66 [] []), (.map 0)]), (.cells [(.ptr 1 0)]), (.cells [(.d (.int .u8 x4)), (.d (.int .i64 x5)), (.d (.int .i64 x6))]), (.cells [(.own 1 x7)]), (.cells [(.ptr 1 0)]), (.cells [(.d (.int .u8 x8)), (.d (.int .i64 x9)), (.d (.int .i64 x10))]), (.loop { st := .ready, pending := none, env := [(2, (.ptr 2 0)), (3, (.ptr 3 0)), (6, (.ptr 4 0))], n := 32, params := #[20, 21], assign := HA92r0, body := HB92r0 })], n := 82 }) ?_ ?_
      · skip
        refine AWp.block ?_
        refine AWp.seq ?_
        obtain ⟨⟨a91, a92, a93, a94, a95, a96⟩, e97, hsK182⟩ := bindS hsK182
        obtain ⟨f98, f99⟩ := gtI e97
        refine AWp.rg hT hA { tk := [20] } (by (repeat (cbv; simp only [c90, f98, f99])); first | done | cbv) (lb rfl) ?_
        refine nT ?_
        refine AWp.seq ?_
        refine AWp.region ?_
        obtain ⟨r101, e100, hsK182⟩ := bindS hsK182
        refine AOps.cc hT hA {} (by (repeat (cbv; simp only [c90])); first | done | cbv) (lb rfl) (H124aw hA e100) rfl (.inr rfl) rfl rfl rfl (lb rfl) rfl rfl ?_
        refine AOps.cd hT hA {} (by (repeat (cbv; simp only [c90])); first | done | cbv) (lb rfl) ?_
        refine nT ?_
        refine AWp.seq ?_
        refine AWp.seq ?_
        refine AWp.rg hT hA {} (by (repeat (cbv; simp only [c90])); first | done | cbv) (lb rfl) ?_
        refine nT ?_
        refine AWp.block ?_
        obtain ⟨xK141, hxK141, K141, hK141, hkK141⟩ := bindK hsK182
        refine AWp.cutX 2 [0, 1, 2, 4, 5, 6, 14, 15, 16] [] 8 (lb rfl) (fun τ => ∃ v140, K141 v140 = some eK182 ∧ τ = { env := [(0, (.yield 7)), (1, (.ptr 5 0)), (2, (.ptr 6 0)), (4, (.d (.int .i64 v88))), (5, (.lbox [(.d (.int .i64 a91)), (.d (.int .i64 a92)), (.d (.int .i64 a93)), (.d (.int .i64 a94)), (.d (.int .i64 a95)), (.d (.int .i64 a96))])), (6, (.d (.bool v140))), (14, (.d (.list 6 x3))), (15, (.d (.int .i64 (A.len x3)))), (16, (.d (.int .i64 v88)))], heap := [(.map true [.int .u8, .int .i64, .int .i64] v89), (.cells [(.d (.list 4 x2)), (.d (.list 6 x3)), (.func 66 [] []), (.map 0)]), (.cells [(.ptr 1 0)]), (.cells [(.d (.int .u8 x4)), (.d (.int .i64 x5)), (.d (.int .i64 x6))]), (.cells [(.own 1 x7)]), (.cells [(.ptr 1 0)]), (.cells [(.d (.int .u8 x8)), (.d (.int .i64 x9)), (.d (.int .i64 x10))]), (.loop { st := .ready, pending := none, env := [(2, (.ptr 2 0)), (3, (.ptr 3 0)), (6, (.ptr 4 0))], n := 32, params := #[20, 21], assign := HA92r0, body := HB92r0 })], n := 82 }) ?_ ?_
        · skip
          refine AWp.iter hxK141 [0, 1, 2, 4, 5, 6, 14, 15, 16, 29, 30, 31] [] 8 (lb rfl) (fun (v120, v121) => { env := [(0, (.yield 7)), (1, (.ptr 5 0)), (2, (.ptr 6 0)), (4, (.d (.int .i64 v88))), (5, (.lbox [(.d (.int .i64 a91)), (.d (.int .i64 a92)), (.d (.int .i64 a93)), (.d (.int .i64 a94)), (.d (.int .i64 a95)), (.d (.int .i64 a96))])), (6, (.d (.bool v120))), (14, (.d (.list 6 x3))), (15, (.d (.int .i64 (A.len x3)))), (16, (.d (.int .i64 v88))), (29, (.d (.list 6 x3))), (30, (.d (.int .i64 (A.len x3)))), (31, (.d (.int .i64 v121)))], heap := [(.map true [.int .u8, .int .i64, .int .i64] v89), (.cells [(.d (.list 4 x2)), (.d (.list 6 x3)), (.func 66 [] []), (.map 0)]), (.cells [(.ptr 1 0)]), (.cells [(.d (.int .u8 x4)), (.d (.int .i64 x5)), (.d (.int .i64 x6))]), (.cells [(.own 1 x7)]), (.cells [(.ptr 1 0)]), (.cells [(.d (.int .u8 x8)), (.d (.int .i64 x9)), (.d (.int .i64 x10))]), (.loop { st := .ready, pending := none, env := [(2, (.ptr 2 0)), (3, (.ptr 3 0)), (6, (.ptr 4 0))], n := 32, params := #[20, 21], assign := HA92r0, body := HB92r0 })], n := 82 }) ⟨rfl, (by first | (cbv; done) | ((repeat (cbv; simp only [c90])); first | done | cbv))⟩ ?_
          rintro ⟨v120, v121⟩ eK141 hsK141
          dsimp only [H125bL0] at hsK141
          refine AWp.seq ?_
          refine AWp.rg hT hA {} (by cbv) (lb rfl) ?_
          refine nT ?_
          refine AWp.seq ?_
          rcases tf (A.zlt v121 (A.len x3)) with c122 | c122
          · replace hsK141 := cT c122 hsK141
            refine AWp.cdT rfl (by first | rfl | simp only [c122, Bool.not_true, Bool.not_false, cond_true, cond_false]) ?_
            refine AWp.skip ?_
            refine nT ?_
            refine AWp.seq ?_
            refine AWp.block ?_
            refine AWp.seq ?_
            obtain ⟨⟨a123, a124, a125, a126, a127, a128⟩, e129, hsK141⟩ := bindS hsK141
            obtain ⟨f130, f131⟩ := gtI e129
            refine AWp.rg hT hA { tk := [35] } (by (repeat (cbv; simp only [c122, f130, f131])); first | done | cbv) (lb rfl) ?_
            refine nT ?_
            obtain ⟨v138, hvK139, hsK141⟩ := bindS hsK141
            refine AWp.cutN [0, 1, 2, 4, 5, 6, 14, 15, 16, 29, 30, 31] [] 8 (lb rfl) (fun τ => τ = { env := [(0, (.yield 7)), (1, (.ptr 5 0)), (2, (.ptr 6 0)), (4, (.d (.int .i64 v88))), (5, (.lbox [(.d (.int .i64 a91)), (.d (.int .i64 a92)), (.d (.int .i64 a93)), (.d (.int .i64 a94)), (.d (.int .i64 a95)), (.d (.int .i64 a96))])), (6, (.d (.bool v138))), (14, (.d (.list 6 x3))), (15, (.d (.int .i64 (A.len x3)))), (16, (.d (.int .i64 v88))), (29, (.d (.list 6 x3))), (30, (.d (.int .i64 (A.len x3)))), (31, (.d (.int .i64 v121)))], heap := [(.map true [.int .u8, .int .i64, .int .i64] v89), (.cells [(.d (.list 4 x2)), (.d (.list 6 x3)), (.func 66 [] []), (.map 0)]), (.cells [(.ptr 1 0)]), (.cells [(.d (.int .u8 x4)), (.d (.int .i64 x5)), (.d (.int .i64 x6))]), (.cells [(.own 1 x7)]), (.cells [(.ptr 1 0)]), (.cells [(.d (.int .u8 x8)), (.d (.int .i64 x9)), (.d (.int .i64 x10))]), (.loop { st := .ready, pending := none, env := [(2, (.ptr 2 0)), (3, (.ptr 3 0)), (6, (.ptr 4 0))], n := 32, params := #[20, 21], assign := HA92r0, body := HB92r0 })], n := 82 }) ?_ ?_
            · skip
              refine AWp.regionDraw rfl (lb rfl) ?_
              rcases tf v120 with c132 | c132
              · replace hvK139 := cT c132 hvK139
                obtain ⟨r134, e133, hvK139⟩ := bindS hvK139
                refine DOps.c0 hT hA {} rfl (by (repeat (cbv; simp only [c122, c132])); first | done | cbv) (H124aw hA e133) rfl rfl (lb rfl) rfl rfl ?_
                rcases tf r134 with c135 | c135
                · replace hvK139 := cT c135 hvK139
                  refine DOps.cd hT hA {} rfl (by (repeat (cbv; simp only [c122, c132, c135])); first | done | cbv) (by kernel_rfl) ?_
                  cases soI hvK139
                  exact oNi ⟨rfl, (by first | (cbv; done) | ((repeat (cbv; simp only [c122, c132, c135])); first | done | cbv))⟩
                · replace hvK139 := cF c135 hvK139
                  obtain ⟨r137, e136, hvK139⟩ := bindS hvK139
                  refine DOps.c0 hT hA {} rfl (by (repeat (cbv; simp only [c122, c132, c135])); first | done | cbv) (H66w hA e136) rfl rfl (lb rfl) rfl rfl ?_
                  refine DOps.cd hT hA {} rfl (by (repeat (cbv; simp only [c122, c132, c135])); first | done | cbv) (by kernel_rfl) ?_
                  cases soI hvK139
                  exact oNi ⟨rfl, (by first | (cbv; done) | ((repeat (cbv; simp only [c122, c132, c135])); first | done | cbv))⟩
              · replace hvK139 := cF c132 hvK139
                refine DOps.cd hT hA {} rfl (by (repeat (cbv; simp only [c122, c132])); first | done | cbv) (by kernel_rfl) ?_
                cases soI hvK139
                exact oNi ⟨rfl, (by first | (cbv; done) | ((repeat (cbv; simp only [c122, c132])); first | done | cbv))⟩
            · rintro _ rfl
              refine nB ?_
              refine nT ?_
              refine AWp.rg hT hA {} (by cbv) (lb rfl) ?_
              exact nT ⟨_, (soI hsK141).symm, rfl, (by cbv)⟩
          · replace hsK141 := cF c122 hsK141
            refine AWp.cdF rfl (by first | rfl | simp only [c122, Bool.not_true, Bool.not_false, cond_true, cond_false]) ?_
            refine AWp.exit ?_
            refine xT ?_
            refine xT ?_
            refine exL hsK141 fun hx => ?_
            subst hx
            exact oxI ⟨rfl, _, hkK141, (by first | (cbv; done) | ((repeat (cbv; simp only [c122])); first | done | cbv))⟩
        · rintro _ ⟨v140, hkK141, rfl⟩
          have hsK182 := (hK141 _ hkK141)
          refine xB ?_
          refine nT ?_
          refine AWp.seq ?_
          refine AWp.seq ?_
          refine AWp.rg hT hA {} (by cbv) (lb rfl) ?_
          refine nT ?_
          rcases tf v140 with c142 | c142
          · replace hsK182 := cT c142 hsK182
            refine AWp.cdF rfl (by first | rfl | simp only [c142, Bool.not_true, Bool.not_false, cond_true, cond_false]) ?_
            refine AWp.skip ?_
            refine nT ?_
            refine AWp.seq ?_
            refine AWp.regionDraw rfl (lb rfl) ?_
            obtain ⟨⟨r144, r145, r146⟩, e143, hsK182⟩ := bindS hsK182
            refine DOps.c0 hT hA { tk := [65] } rfl (by (repeat (cbv; simp only [c142])); first | done | cbv) (H78aw hA e143) rfl rfl (lb rfl) rfl rfl ?_
            refine DOps.cd hT hA { tk := [65] } rfl (by (repeat (cbv; simp only [c142])); first | done | cbv) (by kernel_rfl) ?_
            refine nT ?_
            refine AWp.seq ?_
            refine AWp.regionDraw rfl (lb rfl) ?_
            rcases tf r146 with c147 | c147
            · replace hsK182 := cT c147 hsK182
              obtain ⟨_, e148, hsK182⟩ := bindS hsK182
              have f149 := nkI e148
              obtain ⟨q166, hr167, hsK182⟩ := bindS hsK182
              rcases q166 with v160 | ⟨v161, v162, v163, v164, v165⟩
              · replace hsK182 := (eL hsK182)
                have y159 : YCall Try.prog 7 [(.d (.int .i64 v88)), (.d (.agg [(.int .u8 (A.bits .or .u8 x8 (A.shl .u8 1 v88))), (.int .i64 r144), (.int .i64 r145)]))] [(.map true [.int .u8, .int .i64, .int .i64] v89), (.cells [(.d (.list 4 x2)), (.d (.list 6 x3)), (.func 66 [] []), (.map 0)]), (.cells [(.ptr 1 0)]), (.cells [(.d (.int .u8 x4)), (.d (.int .i64 x5)), (.d (.int .i64 x6))]), (.cells [(.own 1 x7)]), (.cells [(.ptr 1 0)]), (.cells [(.d (.int .u8 x8)), (.d (.int .i64 x9)), (.d (.int .i64 x10))]), (.loop { st := .ready, pending := none, env := [(2, (.ptr 2 0)), (3, (.ptr 3 0)), (6, (.ptr 4 0))], n := 32, params := #[20, 21], assign := HA92r0, body := HB92r0 })] (.d (.bool true)) [(.map true [.int .u8, .int .i64, .int .i64] v160), (.cells [(.d (.list 4 x2)), (.d (.list 6 x3)), (.func 66 [] []), (.map 0)]), (.cells [(.ptr 1 0)]), (.cells [(.d (.int .u8 x4)), (.d (.int .i64 x5)), (.d (.int .i64 x6))]), (.cells [(.own 1 x7)]), (.cells [(.ptr 1 0)]), (.cells [(.d (.int .u8 x8)), (.d (.int .i64 x9)), (.d (.int .i64 x10))]), (.loop { st := .ready, pending := none, env := [(2, (.ptr 2 0)), (3, (.ptr 3 0)), (6, (.ptr 4 0))], n := 32, params := #[20, 21], assign := HA92r0, body := HB92r0 })] := by
                  refine YCall.mk rfl rfl rfl rfl rfl rfl (lb rfl) ?_
                  dsimp only [HA92r0, HB92r0, cAt, Try.f92, Option.getD]
                  refine AWp.seq ?_
                  refine AWp.rg hT hA {} (by cbv) (lb rfl) ?_
                  refine nT ?_
                  refine AWp.rg hT hA { tk := [21] } (by cbv) (lb rfl) ?_
                  refine ⟨rfl, rfl, ?_⟩
                  refine AWp.block ?_
                  refine AWp.seq ?_
                  refine AWp.region ?_
                  obtain ⟨⟨r152, r153⟩, e151, hr167⟩ := bindS hr167
                  refine AOps.cc hT hA {} (by cbv) (lb rfl) (H74w hA e151) rfl (.inr rfl) rfl rfl rfl (lb rfl) rfl rfl ?_
                  refine AOps.cd hT hA {} (by cbv) (lb rfl) ?_
                  refine nT ?_
                  rcases tf (A.zlt 0 r152) with c154 | c154
                  · replace hr167 := cT c154 hr167
                    refine AWp.cdT rfl (by first | rfl | simp only [c154, Bool.not_true, Bool.not_false, cond_true, cond_false]) ?_
                    refine AWp.seq ?_
                    obtain ⟨l155, e156, hr167⟩ := bindS hr167
                    obtain ⟨f157, f158⟩ := apI e156
                    refine AWp.rd hT hA { tk := [26, 29, 30] } rfl (by (repeat (cbv; simp only [c154, f157, f158])); first | done | cbv) (by kernel_rfl) (lb rfl) ?_
                    refine nT ?_
                    refine AWp.exit ?_
                    refine xN rfl ?_
                    cases soI hr167
                  · replace hr167 := cF c154 hr167
                    refine AWp.cdF rfl (by first | rfl | simp only [c154, Bool.not_true, Bool.not_false, cond_true, cond_false]) ?_
                    refine AWp.skip ?_
                    refine nB ?_
                    cases soI hr167
                    exact ⟨rfl, rfl, _, rfl⟩
                refine DOps.cy hT hA {} rfl (by (repeat (cbv; simp only [c142, c147, f149])); first | done | cbv) y159 rfl (.inl rfl) rfl rfl rfl (lb rfl) rfl rfl ?_
                refine DOps.cd hT hA {} rfl (by (repeat (cbv; simp only [c142, c147, f149])); first | done | cbv) (by kernel_rfl) ?_
                refine nT ?_
                refine AWp.cdF rfl (by first | rfl | simp only [c142, c147, Bool.not_true, Bool.not_false, cond_true, cond_false]) ?_
                refine AWp.skip ?_
                refine nB ?_
                exact oNi ⟨rfl, _, hsK182, (by first | (cbv; done) | ((repeat (cbv; simp only [c142, c147])); first | done | cbv))⟩
              · replace hsK182 := (eR hsK182)
                have y159 : YCall Try.prog 7 [(.d (.int .i64 v88)), (.d (.agg [(.int .u8 (A.bits .or .u8 x8 (A.shl .u8 1 v88))), (.int .i64 r144), (.int .i64 r145)]))] [(.map true [.int .u8, .int .i64, .int .i64] v89), (.cells [(.d (.list 4 x2)), (.d (.list 6 x3)), (.func 66 [] []), (.map 0)]), (.cells [(.ptr 1 0)]), (.cells [(.d (.int .u8 x4)), (.d (.int .i64 x5)), (.d (.int .i64 x6))]), (.cells [(.own 1 x7)]), (.cells [(.ptr 1 0)]), (.cells [(.d (.int .u8 x8)), (.d (.int .i64 x9)), (.d (.int .i64 x10))]), (.loop { st := .ready, pending := none, env := [(2, (.ptr 2 0)), (3, (.ptr 3 0)), (6, (.ptr 4 0))], n := 32, params := #[20, 21], assign := HA92r0, body := HB92r0 })] (.d (.bool false)) [(.map true [.int .u8, .int .i64, .int .i64] v161), (.cells [(.d (.list 4 x2)), (.d (.list 6 x3)), (.func 66 [] []), (.map 0)]), (.cells [(.ptr 1 0)]), (.cells [(.d (.int .u8 v162)), (.d (.int .i64 v163)), (.d (.int .i64 v164))]), (.cells [(.own 1 v165)]), (.cells [(.ptr 1 0)]), (.cells [(.d (.int .u8 x8)), (.d (.int .i64 x9)), (.d (.int .i64 x10))]), (.loop { st := .done, pending := (some (.exit 2)), env := [(2, (.ptr 2 0)), (3, (.ptr 3 0)), (6, (.ptr 4 0))], n := 32, params := #[20, 21], assign := HA92r0, body := HB92r0 })] := by
                  refine YCall.mk rfl rfl rfl rfl rfl rfl (lb rfl) ?_
                  dsimp only [HA92r0, HB92r0, cAt, Try.f92, Option.getD]
                  refine AWp.seq ?_
                  refine AWp.rg hT hA {} (by cbv) (lb rfl) ?_
                  refine nT ?_
                  refine AWp.rg hT hA { tk := [21] } (by cbv) (lb rfl) ?_
                  refine ⟨rfl, rfl, ?_⟩
                  refine AWp.block ?_
                  refine AWp.seq ?_
                  refine AWp.region ?_
                  obtain ⟨⟨r152, r153⟩, e151, hr167⟩ := bindS hr167
                  refine AOps.cc hT hA {} (by cbv) (lb rfl) (H74w hA e151) rfl (.inr rfl) rfl rfl rfl (lb rfl) rfl rfl ?_
                  refine AOps.cd hT hA {} (by cbv) (lb rfl) ?_
                  refine nT ?_
                  rcases tf (A.zlt 0 r152) with c154 | c154
                  · replace hr167 := cT c154 hr167
                    refine AWp.cdT rfl (by first | rfl | simp only [c154, Bool.not_true, Bool.not_false, cond_true, cond_false]) ?_
                    refine AWp.seq ?_
                    obtain ⟨l155, e156, hr167⟩ := bindS hr167
                    obtain ⟨f157, f158⟩ := apI e156
                    refine AWp.rd hT hA { tk := [26, 29, 30] } rfl (by (repeat (cbv; simp only [c154, f157, f158])); first | done | cbv) (by kernel_rfl) (lb rfl) ?_
                    refine nT ?_
                    refine AWp.exit ?_
                    refine xN rfl ?_
                    cases soI hr167
                    exact ⟨rfl, rfl, _, rfl⟩
                  · replace hr167 := cF c154 hr167
                    refine AWp.cdF rfl (by first | rfl | simp only [c154, Bool.not_true, Bool.not_false, cond_true, cond_false]) ?_
                    refine AWp.skip ?_
                    refine nB ?_
                    cases soI hr167
                refine DOps.cy hT hA {} rfl (by (repeat (cbv; simp only [c142, c147, f149])); first | done | cbv) y159 rfl (.inl rfl) rfl rfl rfl (lb rfl) rfl rfl ?_
                refine DOps.cd hT hA {} rfl (by (repeat (cbv; simp only [c142, c147, f149])); first | done | cbv) (by kernel_rfl) ?_
                refine nT ?_
                refine AWp.cdT rfl (by first | rfl | simp only [c142, c147, Bool.not_true, Bool.not_false, cond_true, cond_false]) ?_
                refine AWp.ret ?_
                refine rB ?_
                refine oNr ?_
                refine rT ?_
                refine rT ?_
                refine exL hsK182 fun hx => ?_
                subst hx
                refine oxR ?_
                replace hkK182 := (eR (hK182 _ hkK182))
                refine rB ?_
                cases soI hkK182
            · replace hsK182 := cF c147 hsK182
              refine DOps.cd hT hA {} rfl (by (repeat (cbv; simp only [c142, c147])); first | done | cbv) (by kernel_rfl) ?_
              refine nT ?_
              refine AWp.cdF rfl (by first | rfl | simp only [c142, c147, Bool.not_true, Bool.not_false, cond_true, cond_false]) ?_
              refine AWp.skip ?_
              refine nB ?_
              exact oNi ⟨rfl, _, hsK182, (by first | (cbv; done) | ((repeat (cbv; simp only [c142, c147])); first | done | cbv))⟩
          · replace hsK182 := cF c142 hsK182
            refine AWp.cdT rfl (by first | rfl | simp only [c142, Bool.not_true, Bool.not_false, cond_true, cond_false]) ?_
            refine AWp.exit ?_
            refine xT ?_
            refine xB ?_
            exact oNi ⟨rfl, _, hsK182, (by first | (cbv; done) | ((repeat (cbv; simp only [c142])); first | done | cbv))⟩
      · rintro _ ⟨v174, hsK182, rfl⟩
        replace hsK182 := hK175 _ hsK182
        refine nT ?_
        refine AWp.rg hT hA {} (by cbv) (lb rfl) ?_
        exact nT ⟨_, (soI hsK182).symm, rfl, (by cbv)⟩
    · replace hsK182 := cF c90 hsK182
      refine AWp.cdF rfl (by first | rfl | simp only [c90, Bool.not_true, Bool.not_false, cond_true, cond_false]) ?_
      refine AWp.exit ?_
      refine xT ?_
      refine xT ?_
      refine exL hsK182 fun hx => ?_
      subst hx
      exact oxI ⟨rfl, _, hkK182, (by first | (cbv; done) | ((repeat (cbv; simp only [c90])); first | done | cbv))⟩
  · rintro _ ⟨v176, hkK182, rfl⟩
    have h := (eL (hK182 _ hkK182))
    refine xB ?_
    cases soI h
    exact ⟨rfl, rfl, rfl, lb rfl, _, rfl⟩

theorem H125bwb {A : Ar} (hA : A = Ar.std) {x1 : List (D × D)} {x2 : List D} {x3 : List D} {x4 : Int} {x5 : Int} {x6 : Int} {x7 : List D} {x8 : Int} {x9 : Int} {x10 : Int} {v184 : List (D × D)} {v185 : Int} {v186 : Int} {v187 : Int} {v188 : List D} (h : H125b A x1 x2 x3 x4 x5 x6 x7 x8 x9 x10 = some (.inr (v184, v185, v186, v187, v188))) : ACall Try.prog 125 [(.yield 7), (.ptr 5 0), (.ptr 6 0)] [(.map true [.int .u8, .int .i64, .int .i64] x1), (.cells [(.d (.list 4 x2)), (.d (.list 6 x3)), (.func 66 [] []), (.map 0)]), (.cells [(.ptr 1 0)]), (.cells [(.d (.int .u8 x4)), (.d (.int .i64 x5)), (.d (.int .i64 x6))]), (.cells [(.own 1 x7)]), (.cells [(.ptr 1 0)]), (.cells [(.d (.int .u8 x8)), (.d (.int .i64 x9)), (.d (.int .i64 x10))]), (.loop { st := .ready, pending := none, env := [(2, (.ptr 2 0)), (3, (.ptr 3 0)), (6, (.ptr 4 0))], n := 32, params := #[20, 21], assign := HA92r0, body := HB92r0 })] (.tuple []) [(.map true [.int .u8, .int .i64, .int .i64] v184), (.cells [(.d (.list 4 x2)), (.d (.list 6 x3)), (.func 66 [] []), (.map 0)]), (.cells [(.ptr 1 0)]), (.cells [(.d (.int .u8 v185)), (.d (.int .i64 v186)), (.d (.int .i64 v187))]), (.cells [(.own 1 v188)]), (.cells [(.ptr 1 0)]), (.cells [(.d (.int .u8 x8)), (.d (.int .i64 x9)), (.d (.int .i64 x10))]), (.loop { st := .done, pending := (some (.exit 2)), env := [(2, (.ptr 2 0)), (3, (.ptr 3 0)), (6, (.ptr 4 0))], n := 32, params := #[20, 21], assign := HA92r0, body := HB92r0 })] := by
  unfold H125b at h
  refine ACall.enter hT (fn := Try.f125) Try.func125 rfl (by decide) (by simp [Try.f125]) rfl rfl rfl rfl (lb rfl) ?_
  refine AWp.seq ?_
  refine AWp.rg hT hA {} (by cbv) (lb rfl) ?_
  refine nT ?_
  refine AWp.block ?_
  obtain ⟨xK182, hxK182, K182, hK182, hkK182⟩ := bindK h
  refine AWp.cutX 0 [] [] 8 (lb rfl) (fun τ => ∃ v176, K182 (.inl v176) = some (.inr (v184, v185, v186, v187, v188)) ∧ τ = { env := [], heap := [(.map true [.int .u8, .int .i64, .int .i64] v176), (.cells [(.d (.list 4 x2)), (.d (.list 6 x3)), (.func 66 [] []), (.map 0)]), (.cells [(.ptr 1 0)]), (.cells [(.d (.int .u8 x4)), (.d (.int .i64 x5)), (.d (.int .i64 x6))]), (.cells [(.own 1 x7)]), (.cells [(.ptr 1 0)]), (.cells [(.d (.int .u8 x8)), (.d (.int .i64 x9)), (.d (.int .i64 x10))]), (.loop { st := .ready, pending := none, env := [(2, (.ptr 2 0)), (3, (.ptr 3 0)), (6, (.ptr 4 0))], n := 32, params := #[20, 21], assign := HA92r0, body := HB92r0 })], n := 82 }) ?_ ?_
  · skip
    refine AWp.iter hxK182 [0, 1, 2, 14, 15, 16] [] 8 (lb rfl) (fun (v88, v89) => { env := [(0, (.yield 7)), (1, (.ptr 5 0)), (2, (.ptr 6 0)), (14, (.d (.list 6 x3))), (15, (.d (.int .i64 (A.len x3)))), (16, (.d (.int .i64 v88)))], heap := [(.map true [.int .u8, .int .i64, .int .i64] v89), (.cells [(.d (.list 4 x2)), (.d (.list 6 x3)), (.func 66 [] []), (.map 0)]), (.cells [(.ptr 1 0)]), (.cells [(.d (.int .u8 x4)), (.d (.int .i64 x5)), (.d (.int .i64 x6))]), (.cells [(.own 1 x7)]), (.cells [(.ptr 1 0)]), (.cells [(.d (.int .u8 x8)), (.d (.int .i64 x9)), (.d (.int .i64 x10))]), (.loop { st := .ready, pending := none, env := [(2, (.ptr 2 0)), (3, (.ptr 3 0)), (6, (.ptr 4 0))], n := 32, params := #[20, 21], assign := HA92r0, body := HB92r0 })], n := 82 }) ⟨rfl, (by cbv)⟩ ?_
    rintro ⟨v88, v89⟩ eK182 hsK182
    dsimp only [H125bL1] at hsK182
    refine AWp.seq ?_
    refine AWp.rg hT hA {} (by cbv) (lb rfl) ?_
    refine nT ?_
    refine AWp.seq ?_
    rcases tf (A.zlt v88 (A.len x3)) with c90 | c90
    · replace hsK182 := cT c90 hsK182
      refine AWp.cdT rfl (by first | rfl | simp only [c90, Bool.not_true, Bool.not_false, cond_true, cond_false]) ?_
      refine AWp.skip ?_
      refine nT ?_
      refine AWp.seq ?_
      obtain ⟨K175, hK175, hsK182⟩ := jnI hsK182
      refine AWp.cutN [0, 1, 2, 14, 15, 16] [] 8 (lb rfl) (fun τ => ∃ v174, K175 v174 = some eK182 ∧ τ = { env := [(0, (.yield 7)), (1, (.ptr 5 0)), (2, (.ptr 6 0)), (14, (.d (.list 6 x3))), (15, (.d (.int .i64 (A.len x3)))), (16, (.d (.int .i64 v88)))], heap := [(.map true [.int .u8, .int .i64, .int .i64] v174), (.cells [(.d (.list 4 x2)), (.d (.list 6 x3)), (.func 66 [] []), (.map 0)]), (.cells [(.ptr 1 0)]), (.cells [(.d (.int .u8 x4)), (.d (.int .i64 x5)), (.d (.int .i64 x6))]), (.cells [(.own 1 x7)]), (.cells [(.ptr 1 0)]), (.cells [(.d (.int .u8 x8)), (.d (.int .i64 x9)), (.d (.int .i64 x10))]), (.loop { st := .ready, pending := none, env := [(2, (.ptr 2 0)), (3, (.ptr 3 0)), (6, (.ptr 4 0))], n := 32, params := #[20, 21], assign := HA92r0, body := HB92r0 })], n := 82 }) ?_ ?_
      · skip
        refine AWp.block ?_
        refine AWp.seq ?_
        obtain ⟨⟨a91, a92, a93, a94, a95, a96⟩, e97, hsK182⟩ := bindS hsK182
        obtain ⟨f98, f99⟩ := gtI e97
        refine AWp.rg hT hA { tk := [20] } (by (repeat (cbv; simp only [c90, f98, f99])); first | done | cbv) (lb rfl) ?_
        refine nT ?_
        refine AWp.seq ?_
        refine AWp.region ?_
        obtain ⟨r101, e100, hsK182⟩ := bindS hsK182
        refine AOps.cc hT hA {} (by (repeat (cbv; simp only [c90])); first | done | cbv) (lb rfl) (H124aw hA e100) rfl (.inr rfl) rfl rfl rfl (lb rfl) rfl rfl ?_
        refine AOps.cd hT hA {} (by (repeat (cbv; simp only [c90])); first | done | cbv) (lb rfl) ?_
        refine nT ?_
        refine AWp.seq ?_
        refine AWp.seq ?_
        refine AWp.rg hT hA {} (by (repeat (cbv; simp only [c90])); first | done | cbv) (lb rfl) ?_
        refine nT ?_
        refine AWp.block ?_
        obtain ⟨xK141, hxK141, K141, hK141, hkK141⟩ := bindK hsK182
        refine AWp.cutX 2 [0, 1, 2, 4, 5, 6, 14, 15, 16] [] 8 (lb rfl) (fun τ => ∃ v140, K141 v140 = some eK182 ∧ τ = { env := [(0, (.yield 7)), (1, (.ptr 5 0)), (2, (.ptr 6 0)), (4, (.d (.int .i64 v88))), (5, (.lbox [(.d (.int .i64 a91)), (.d (.int .i64 a92)), (.d (.int .i64 a93)), (.d (.int .i64 a94)), (.d (.int .i64 a95)), (.d (.int .i64 a96))])), (6, (.d (.bool v140))), (14, (.d (.list 6 x3))), (15, (.d (.int .i64 (A.len x3)))), (16, (.d (.int .i64 v88)))], heap := [(.map true [.int .u8, .int .i64, .int .i64] v89), (.cells [(.d (.list 4 x2)), (.d (.list 6 x3)), (.func 66 [] []), (.map 0)]), (.cells [(.ptr 1 0)]), (.cells [(.d (.int .u8 x4)), (.d (.int .i64 x5)), (.d (.int .i64 x6))]), (.cells [(.own 1 x7)]), (.cells [(.ptr 1 0)]), (.cells [(.d (.int .u8 x8)), (.d (.int .i64 x9)), (.d (.int .i64 x10))]), (.loop { st := .ready, pending := none, env := [(2, (.ptr 2 0)), (3, (.ptr 3 0)), (6, (.ptr 4 0))], n := 32, params := #[20, 21], assign := HA92r0, body := HB92r0 })], n := 82 }) ?_ ?_
        · skip
          refine AWp.iter hxK141 [0, 1, 2, 4, 5, 6, 14, 15, 16, 29, 30, 31] [] 8 (lb rfl) (fun (v120, v121) => { env := [(0, (.yield 7)), (1, (.ptr 5 0)), (2, (.ptr 6 0)), (4, (.d (.int .i64 v88))), (5, (.lbox [(.d (.int .i64 a91)), (.d (.int .i64 a92)), (.d (.int .i64 a93)), (.d (.int .i64 a94)), (.d (.int .i64 a95)), (.d (.int .i64 a96))])), (6, (.d (.bool v120))), (14, (.d (.list 6 x3))), (15, (.d (.int .i64 (A.len x3)))), (16, (.d (.int .i64 v88))), (29, (.d (.list 6 x3))), (30, (.d (.int .i64 (A.len x3)))), (31, (.d (.int .i64 v121)))], heap := [(.map true [.int .u8, .int .i64, .int .i64] v89), (.cells [(.d (.list 4 x2)), (.d (.list 6 x3)), (.func 66 [] []), (.map 0)]), (.cells [(.ptr 1 0)]), (.cells [(.d (.int .u8 x4)), (.d (.int .i64 x5)), (.d (.int .i64 x6))]), (.cells [(.own 1 x7)]), (.cells [(.ptr 1 0)]), (.cells [(.d (.int .u8 x8)), (.d (.int .i64 x9)), (.d (.int .i64 x10))]), (.loop { st := .ready, pending := none, env := [(2, (.ptr 2 0)), (3, (.ptr 3 0)), (6, (.ptr 4 0))], n := 32, params := #[20, 21], assign := HA92r0, body := HB92r0 })], n := 82 }) ⟨rfl, (by first | (cbv; done) | ((repeat (cbv; simp only [c90])); first | done | cbv))⟩ ?_
          rintro ⟨v120, v121⟩ eK141 hsK141
          dsimp only [H125bL0] at hsK141
          refine AWp.seq ?_
          refine AWp.rg hT hA {} (by cbv) (lb rfl) ?_
          refine nT ?_
          refine AWp.seq ?_
          rcases tf (A.zlt v121 (A.len x3)) with c122 | c122
          · replace hsK141 := cT c122 hsK141
            refine AWp.cdT rfl (by first | rfl | simp only [c122, Bool.not_true, Bool.not_false, cond_true, cond_false]) ?_
            refine AWp.skip ?_
            refine nT ?_
            refine AWp.seq ?_
            refine AWp.block ?_
            refine AWp.seq ?_
            obtain ⟨⟨a123, a124, a125, a126, a127, a128⟩, e129, hsK141⟩ := bindS hsK141
            obtain ⟨f130, f131⟩ := gtI e129
            refine AWp.rg hT hA { tk := [35] } (by (repeat (cbv; simp only [c122, f130, f131])); first | done | cbv) (lb rfl) ?_
            refine nT ?_
            obtain ⟨v138, hvK139, hsK141⟩ := bindS hsK141
            refine AWp.cutN [0, 1, 2, 4, 5, 6, 14, 15, 16, 29, 30, 31] [] 8 (lb rfl) (fun τ => τ = { env := [(0, (.yield 7)), (1, (.ptr 5 0)), (2, (.ptr 6 0)), (4, (.d (.int .i64 v88))), (5, (.lbox [(.d (.int .i64 a91)), (.d (.int .i64 a92)), (.d (.int .i64 a93)), (.d (.int .i64 a94)), (.d (.int .i64 a95)), (.d (.int .i64 a96))])), (6, (.d (.bool v138))), (14, (.d (.list 6 x3))), (15, (.d (.int .i64 (A.len x3)))), (16, (.d (.int .i64 v88))), (29, (.d (.list 6 x3))), (30, (.d (.int .i64 (A.len x3)))), (31, (.d (.int .i64 v121)))], heap := [(.map true [.int .u8, .int .i64, .int .i64] v89), (.cells [(.d (.list 4 x2)), (.d (.list 6 x3)), (.func 66 [] []), (.map 0)]), (.cells [(.ptr 1 0)]), (.cells [(.d (.int .u8 x4)), (.d (.int .i64 x5)), (.d (.int .i64 x6))]), (.cells [(.own 1 x7)]), (.cells [(.ptr 1 0)]), (.cells [(.d (.int .u8 x8)), (.d (.int .i64 x9)), (.d (.int .i64 x10))]), (.loop { st := .ready, pending := none, env := [(2, (.ptr 2 0)), (3, (.ptr 3 0)), (6, (.ptr 4 0))], n := 32, params := #[20, 21], assign := HA92r0, body := HB92r0 })], n := 82 }) ?_ ?_
            · skip
              refine AWp.regionDraw rfl (lb rfl) ?_
              rcases tf v120 with c132 | c132
              · replace hvK139 := cT c132 hvK139
                obtain ⟨r134, e133, hvK139⟩ := bindS hvK139
                refine DOps.c0 hT hA {} rfl (by (repeat (cbv; simp only [c122, c132])); first | done | cbv) (H124aw hA e133) rfl rfl (lb rfl) rfl rfl ?_
                rcases tf r134 with c135 | c135
                · replace hvK139 := cT c135 hvK139
                  refine DOps.cd hT hA {} rfl (by (repeat (cbv; simp only [c122, c132, c135])); first | done | cbv) (by kernel_rfl) ?_
                  cases soI hvK139
                  exact oNi ⟨rfl, (by first | (cbv; done) | ((repeat (cbv; simp only [c122, c132, c135])); first | done | cbv))⟩
                · replace hvK139 := cF c135 hvK139
                  obtain ⟨r137, e136, hvK139⟩ := bindS hvK139
                  refine DOps.c0 hT hA {} rfl (by (repeat (cbv; simp only [c122, c132, c135])); first | done | cbv) (H66w hA e136) rfl rfl (lb rfl) rfl rfl ?_
                  refine DOps.cd hT hA {} rfl (by (repeat (cbv; simp only [c122, c132, c135])); first | done | cbv) (by kernel_rfl) ?_
                  cases soI hvK139
                  exact oNi ⟨rfl, (by first | (cbv; done) | ((repeat (cbv; simp only [c122, c132, c135])); first | done | cbv))⟩
              · replace hvK139 := cF c132 hvK139
                refine DOps.cd hT hA {} rfl (by (repeat (cbv; simp only [c122, c132])); first | done | cbv) (by kernel_rfl) ?_
                cases soI hvK139
                exact oNi ⟨rfl, (by first | (cbv; done) | ((repeat (cbv; simp only [c122, c132])); first | done | cbv))⟩
            · rintro _ rfl
              refine nB ?_
              refine nT ?_
              refine AWp.rg hT hA {} (by cbv) (lb rfl) ?_
              exact nT ⟨_, (soI hsK141).symm, rfl, (by cbv)⟩
          · replace hsK141 := cF c122 hsK141
            refine AWp.cdF rfl (by first | rfl | simp only [c122, Bool.not_true, Bool.not_false, cond_true, cond_false]) ?_
            refine AWp.exit ?_
            refine xT ?_
            refine xT ?_
            refine exL hsK141 fun hx => ?_
            subst hx
            exact oxI ⟨rfl, _, hkK141, (by first | (cbv; done) | ((repeat (cbv; simp only [c122])); first | done | cbv))⟩
        · rintro _ ⟨v140, hkK141, rfl⟩
          have hsK182 := (hK141 _ hkK141)
          refine xB ?_
          refine nT ?_
          refine AWp.seq ?_
          refine AWp.seq ?_
          refine AWp.rg hT hA {} (by cbv) (lb rfl) ?_
          refine nT ?_
          rcases tf v140 with c142 | c142
          · replace hsK182 := cT c142 hsK182
            refine AWp.cdF rfl (by first | rfl | simp only [c142, Bool.not_true, Bool.not_false, cond_true, cond_false]) ?_
            refine AWp.skip ?_
            refine nT ?_
            refine AWp.seq ?_
            refine AWp.regionDraw rfl (lb rfl) ?_
            obtain ⟨⟨r144, r145, r146⟩, e143, hsK182⟩ := bindS hsK182
            refine DOps.c0 hT hA { tk := [65] } rfl (by (repeat (cbv; simp only [c142])); first | done | cbv) (H78aw hA e143) rfl rfl (lb rfl) rfl rfl ?_
            refine DOps.cd hT hA { tk := [65] } rfl (by (repeat (cbv; simp only [c142])); first | done | cbv) (by kernel_rfl) ?_
            refine nT ?_
            refine AWp.seq ?_
            refine AWp.regionDraw rfl (lb rfl) ?_
            rcases tf r146 with c147 | c147
            · replace hsK182 := cT c147 hsK182
              obtain ⟨_, e148, hsK182⟩ := bindS hsK182
              have f149 := nkI e148
              obtain ⟨q166, hr167, hsK182⟩ := bindS hsK182
              rcases q166 with v160 | ⟨v161, v162, v163, v164, v165⟩
              · replace hsK182 := (eL hsK182)
                have y159 : YCall Try.prog 7 [(.d (.int .i64 v88)), (.d (.agg [(.int .u8 (A.bits .or .u8 x8 (A.shl .u8 1 v88))), (.int .i64 r144), (.int .i64 r145)]))] [(.map true [.int .u8, .int .i64, .int .i64] v89), (.cells [(.d (.list 4 x2)), (.d (.list 6 x3)), (.func 66 [] []), (.map 0)]), (.cells [(.ptr 1 0)]), (.cells [(.d (.int .u8 x4)), (.d (.int .i64 x5)), (.d (.int .i64 x6))]), (.cells [(.own 1 x7)]), (.cells [(.ptr 1 0)]), (.cells [(.d (.int .u8 x8)), (.d (.int .i64 x9)), (.d (.int .i64 x10))]), (.loop { st := .ready, pending := none, env := [(2, (.ptr 2 0)), (3, (.ptr 3 0)), (6, (.ptr 4 0))], n := 32, params := #[20, 21], assign := HA92r0, body := HB92r0 })] (.d (.bool true)) [(.map true [.int .u8, .int .i64, .int .i64] v160), (.cells [(.d (.list 4 x2)), (.d (.list 6 x3)), (.func 66 [] []), (.map 0)]), (.cells [(.ptr 1 0)]), (.cells [(.d (.int .u8 x4)), (.d (.int .i64 x5)), (.d (.int .i64 x6))]), (.cells [(.own 1 x7)]), (.cells [(.ptr 1 0)]), (.cells [(.d (.int .u8 x8)), (.d (.int .i64 x9)), (.d (.int .i64 x10))]), (.loop { st := .ready, pending := none, env := [(2, (.ptr 2 0)), (3, (.ptr 3 0)), (6, (.ptr 4 0))], n := 32, params := #[20, 21], assign := HA92r0, body := HB92r0 })] := by
                  refine YCall.mk rfl rfl rfl rfl rfl rfl (lb rfl) ?_
                  dsimp only [HA92r0, HB92r0, cAt, Try.f92, Option.getD]
                  refine AWp.seq ?_
                  refine AWp.rg hT hA {} (by cbv) (lb rfl) ?_
                  refine nT ?_
                  refine AWp.rg hT hA { tk := [21] } (by cbv) (lb rfl) ?_
                  refine ⟨rfl, rfl, ?_⟩
                  refine AWp.block ?_
                  refine AWp.seq ?_
                  refine AWp.region ?_
                  obtain ⟨⟨r152, r153⟩, e151, hr167⟩ := bindS hr167
                  refine AOps.cc hT hA {} (by cbv) (lb rfl) (H74w hA e151) rfl (.inr rfl) rfl rfl rfl (lb rfl) rfl rfl ?_
                  refine AOps.cd hT hA {} (by cbv) (lb rfl) ?_
                  refine nT ?_
                  rcases tf (A.zlt 0 r152) with c154 | c154
                  · replace hr167 := cT c154 hr167
                    refine AWp.cdT rfl (by first | rfl | simp only [c154, Bool.not_true, Bool.not_false, cond_true, cond_false]) ?_
                    refine AWp.seq ?_
                    obtain ⟨l155, e156, hr167⟩ := bindS hr167
                    obtain ⟨f157, f158⟩ := apI e156
                    refine AWp.rd hT hA { tk := [26, 29, 30] } rfl (by (repeat (cbv; simp only [c154, f157, f158])); first | done | cbv) (by kernel_rfl) (lb rfl) ?_
                    refine nT ?_
                    refine AWp.exit ?_
                    refine xN rfl ?_
                    cases soI hr167
                  · replace hr167 := cF c154 hr167
                    refine AWp.cdF rfl (by first | rfl | simp only [c154, Bool.not_true, Bool.not_false, cond_true, cond_false]) ?_
                    refine AWp.skip ?_
                    refine nB ?_
                    cases soI hr167
                    exact ⟨rfl, rfl, _, rfl⟩
                refine DOps.cy hT hA {} rfl (by (repeat (cbv; simp only [c142, c147, f149])); first | done | cbv) y159 rfl (.inl rfl) rfl rfl rfl (lb rfl) rfl rfl ?_
                refine DOps.cd hT hA {} rfl (by (repeat (cbv; simp only [c142, c147, f149])); first | done | cbv) (by kernel_rfl) ?_
                refine nT ?_
                refine AWp.cdF rfl (by first | rfl | simp only [c142, c147, Bool.not_true, Bool.not_false, cond_true, cond_false]) ?_
                refine AWp.skip ?_
                refine nB ?_
                exact oNi ⟨rfl, _, hsK182, (by first | (cbv; done) | ((repeat (cbv; simp only [c142, c147])); first | done | cbv))⟩
              · replace hsK182 := (eR hsK182)
                have y159 : YCall Try.prog 7 [(.d (.int .i64 v88)), (.d (.agg [(.int .u8 (A.bits .or .u8 x8 (A.shl .u8 1 v88))), (.int .i64 r144), (.int .i64 r145)]))] [(.map true [.int .u8, .int .i64, .int .i64] v89), (.cells [(.d (.list 4 x2)), (.d (.list 6 x3)), (.func 66 [] []), (.map 0)]), (.cells [(.ptr 1 0)]), (.cells [(.d (.int .u8 x4)), (.d (.int .i64 x5)), (.d (.int .i64 x6))]), (.cells [(.own 1 x7)]), (.cells [(.ptr 1 0)]), (.cells [(.d (.int .u8 x8)), (.d (.int .i64 x9)), (.d (.int .i64 x10))]), (.loop { st := .ready, pending := none, env := [(2, (.ptr 2 0)), (3, (.ptr 3 0)), (6, (.ptr 4 0))], n := 32, params := #[20, 21], assign := HA92r0, body := HB92r0 })] (.d (.bool false)) [(.map true [.int .u8, .int .i64, .int .i64] v161), (.cells [(.d (.list 4 x2)), (.d (.list 6 x3)), (.func 66 [] []), (.map 0)]), (.cells [(.ptr 1 0)]), (.cells [(.d (.int .u8 v162)), (.d (.int .i64 v163)), (.d (.int .i64 v164))]), (.cells [(.own 1 v165)]), (.cells [(.ptr 1 0)]), (.cells [(.d (.int .u8 x8)), (.d (.int .i64 x9)), (.d (.int .i64 x10))]), (.loop { st := .done, pending := (some (.exit 2)), env := [(2, (.ptr 2 0)), (3, (.ptr 3 0)), (6, (.ptr 4 0))], n := 32, params := #[20, 21], assign := HA92r0, body := HB92r0 })] := by
                  refine YCall.mk rfl rfl rfl rfl rfl rfl (lb rfl) ?_
                  dsimp only [HA92r0, HB92r0, cAt, Try.f92, Option.getD]
                  refine AWp.seq ?_
                  refine AWp.rg hT hA {} (by cbv) (lb rfl) ?_
                  refine nT ?_
                  refine AWp.rg hT hA { tk := [21] } (by cbv) (lb rfl) ?_
                  refine ⟨rfl, rfl, ?_⟩
                  refine AWp.block ?_
                  refine AWp.seq ?_
                  refine AWp.region ?_
                  obtain ⟨⟨r152, r153⟩, e151, hr167⟩ := bindS hr167
                  refine AOps.cc hT hA {} (by cbv) (lb rfl) (H74w hA e151) rfl (.inr rfl) rfl rfl rfl (lb rfl) rfl rfl ?_
                  refine AOps.cd hT hA {} (by cbv) (lb rfl) ?_
                  refine nT ?_
                  rcases tf (A.zlt 0 r152) with c154 | c154
                  · replace hr167 := cT c154 hr167
                    refine AWp.cdT rfl (by first | rfl | simp only [c154, Bool.not_true, Bool.not_false, cond_true, cond_false]) ?_
                    refine AWp.seq ?_
                    obtain ⟨l155, e156, hr167⟩ := bindS hr167
                    obtain ⟨f157, f158⟩ := apI e156
                    refine AWp.rd hT hA { tk := [26, 29, 30] } rfl (by (repeat (cbv; simp only [c154, f157, f158])); first | done | cbv) (by kernel_rfl) (lb rfl) ?_
                    refine nT ?_
                    refine AWp.exit ?_
                    refine xN rfl ?_
                    cases soI hr167
                    exact ⟨rfl, rfl, _, rfl⟩
                  · replace hr167 := cF c154 hr167
                    refine AWp.cdF rfl (by first | rfl | simp only [c154, Bool.not_true, Bool.not_false, cond_true, cond_false]) ?_
                    refine AWp.skip ?_
                    refine nB ?_
                    cases soI hr167
                refine DOps.cy hT hA {} rfl (by (repeat (cbv; simp only [c142, c147, f149])); first | done | cbv) y159 rfl (.inl rfl) rfl rfl rfl (lb rfl) rfl rfl ?_
                refine DOps.cd hT hA {} rfl (by (repeat (cbv; simp only [c142, c147, f149])); first | done | cbv) (by kernel_rfl) ?_
                refine nT ?_
                refine AWp.cdT rfl (by first | rfl | simp only [c142, c147, Bool.not_true, Bool.not_false, cond_true, cond_false]) ?_
                refine AWp.ret ?_
                refine rB ?_
                refine oNr ?_
                refine rT ?_
                refine rT ?_
                refine exL hsK182 fun hx => ?_
                subst hx
                refine oxR ?_
                replace hkK182 := (eR (hK182 _ hkK182))
                refine rB ?_
                cases soI hkK182
                exact ⟨rfl, rfl, rfl, lb rfl, _, rfl⟩
            · replace hsK182 := cF c147 hsK182
              refine DOps.cd hT hA {} rfl (by (repeat (cbv; simp only [c142, c147])); first | done | cbv) (by kernel_rfl) ?_
              refine nT ?_
              refine AWp.cdF rfl (by first | rfl | simp only [c142, c147, Bool.not_true, Bool.not_false, cond_true, cond_false]) ?_
              refine AWp.skip ?_
              refine nB ?_
              exact oNi ⟨rfl, _, hsK182, (by first | (cbv; done) | ((repeat (cbv; simp only [c142, c147])); first | done | cbv))⟩
          · replace hsK182 := cF c142 hsK182
            refine AWp.cdT rfl (by first | rfl | simp only [c142, Bool.not_true, Bool.not_false, cond_true, cond_false]) ?_
            refine AWp.exit ?_
            refine xT ?_
            refine xB ?_
            exact oNi ⟨rfl, _, hsK182, (by first | (cbv; done) | ((repeat (cbv; simp only [c142])); first | done | cbv))⟩
      · rintro _ ⟨v174, hsK182, rfl⟩
        replace hsK182 := hK175 _ hsK182
        refine nT ?_
        refine AWp.rg hT hA {} (by cbv) (lb rfl) ?_
        exact nT ⟨_, (soI hsK182).symm, rfl, (by cbv)⟩
    · replace hsK182 := cF c90 hsK182
      refine AWp.cdF rfl (by first | rfl | simp only [c90, Bool.not_true, Bool.not_false, cond_true, cond_false]) ?_
      refine AWp.exit ?_
      refine xT ?_
      refine xT ?_
      refine exL hsK182 fun hx => ?_
      subst hx
      exact oxI ⟨rfl, _, hkK182, (by first | (cbv; done) | ((repeat (cbv; simp only [c90])); first | done | cbv))⟩
  · rintro _ ⟨v176, hkK182, rfl⟩
    have h := (eL (hK182 _ hkK182))
    refine xB ?_
    cases soI h

theorem H92w {A : Ar} (hA : A = Ar.std) {x1 : Int} {x2 : Int} {x3 : Int} {x4 : List (D × D)} {x5 : List D} {x6 : List D} {v64 : List D} {v65 : Bool} {v66 : List (D × D)} (h : H92 A x1 x2 x3 x4 x5 x6 = some (v64, v65, v66)) : ACall Try.prog 92 [(.ptr 1 0), (.d (.agg [(.int .u8 x1), (.int .i64 x2), (.int .i64 x3)]))] [(.map true [.int .u8, .int .i64, .int .i64] x4), (.cells [(.d (.list 4 x5)), (.d (.list 6 x6)), (.func 66 [] []), (.map 0)])] (.tuple [(.d (.list 1 v64)), (.d (.bool v65))]) [(.map true [.int .u8, .int .i64, .int .i64] v66), (.cells [(.d (.list 4 x5)), (.d (.list 6 x6)), (.func 66 [] []), (.map 0)])] := by
  unfold H92 at h
  refine ACall.enterT hT (fn := Try.f92) Try.func92 rfl (by decide) (by simp [Try.f92]) rfl rfl rfl rfl (lb rfl) ?_
  refine AWpT.seq ?_
  refine AWpT.of ?_
  refine AWp.rg hT hA { esc := [2, 3] } (by cbv) (lb rfl) ?_
  refine nT ?_
  refine AWpT.seq ?_
  refine AWpT.of ?_
  refine AWp.seq ?_
  refine AWp.region ?_
  obtain ⟨⟨r8, r9⟩, e7, h⟩ := bindS h
  refine AOps.cc hT hA {} (by cbv) (lb rfl) (H74w hA e7) rfl (.inr rfl) rfl rfl rfl (lb rfl) rfl rfl ?_
  refine AOps.cd hT hA {} (by cbv) (lb rfl) ?_
  refine nT ?_
  rcases tf (A.zeq r8 0) with c10 | c10
  · replace h := cT c10 h
    refine AWp.cdT rfl (by first | rfl | simp only [c10, Bool.not_true, Bool.not_false, cond_true, cond_false]) ?_
    refine AWp.seq ?_
    refine AWp.rg hT hA {} (by (repeat (cbv; simp only [c10])); first | done | cbv) (lb rfl) ?_
    refine nT ?_
    refine AWp.ret ?_
    refine rT ?_
    cases soI h
    exact ⟨rfl, rfl, rfl, lb rfl, _, rfl⟩
  · replace h := cF c10 h
    refine AWp.cdF rfl (by first | rfl | simp only [c10, Bool.not_true, Bool.not_false, cond_true, cond_false]) ?_
    refine AWp.skip ?_
    refine nT ?_
    refine AWpT.seq ?_
    refine AWpT.of ?_
    refine AWp.rg hT hA { esc := [6] } (by (repeat (cbv; simp only [c10])); first | done | cbv) (lb rfl) ?_
    refine nT ?_
    refine AWpT.seq ?_
    refine AWpT.block ?_
    obtain ⟨xK63, hxK63, K63, hK63, hkK63⟩ := bindK h
    refine AWpT.cutX 0 [6] [] 5 (lb rfl) (fun τ => ∃ v58 v59 v60 v61 v62, K63 (v58, v59, v60, v61, v62) = some (v64, v65, v66) ∧ τ = { env := [(6, (.ptr 4 0))], heap := [(.map true [.int .u8, .int .i64, .int .i64] v58), (.cells [(.d (.list 4 x5)), (.d (.list 6 x6)), (.func 66 [] []), (.map 0)]), (.cells [(.ptr 1 0)]), (.cells [(.d (.int .u8 v59)), (.d (.int .i64 v60)), (.d (.int .i64 v61))]), (.cells [(.own 1 v62)])], n := 32 }) ?_ ?_
    · skip
      refine AWpT.iter hxK63 [2, 3, 6] [] 5 (lb rfl) (fun (v32, v33, v34, v35, v36) => { env := [(2, (.ptr 2 0)), (3, (.ptr 3 0)), (6, (.ptr 4 0))], heap := [(.map true [.int .u8, .int .i64, .int .i64] v32), (.cells [(.d (.list 4 x5)), (.d (.list 6 x6)), (.func 66 [] []), (.map 0)]), (.cells [(.ptr 1 0)]), (.cells [(.d (.int .u8 v33)), (.d (.int .i64 v34)), (.d (.int .i64 v35))]), (.cells [(.own 1 v36)])], n := 32 }) ⟨rfl, (by first | (cbv; done) | ((repeat (cbv; simp only [c10])); first | done | cbv))⟩ ?_
      rintro ⟨v32, v33, v34, v35, v36⟩ eK63 hsK63
      dsimp only [H92L0] at hsK63
      refine AWpT.seq ?_
      refine AWpT.of ?_
      refine AWp.seq ?_
      refine AWp.region ?_
      obtain ⟨r38, e37, hsK63⟩ := bindS hsK63
      refine AOps.cc hT hA {} (by cbv) (lb rfl) (H115aw hA e37) rfl (.inr rfl) rfl rfl rfl (lb rfl) rfl rfl ?_
      refine AOps.cd hT hA {} (by cbv) (lb rfl) ?_
      refine nT ?_
      rcases tf r38 with c39 | c39
      · replace hsK63 := cT c39 hsK63
        refine AWp.cdF rfl (by first | rfl | simp only [c39, Bool.not_true, Bool.not_false, cond_true, cond_false]) ?_
        refine AWp.exit ?_
        refine xT ?_
        refine xT ?_
        refine exL hsK63 fun hx => ?_
        subst hx
        exact oxI ⟨rfl, _, _, _, _, _, hkK63, (by first | (cbv; done) | ((repeat (cbv; simp only [c39])); first | done | cbv))⟩
      · replace hsK63 := cF c39 hsK63
        refine AWp.cdT rfl (by first | rfl | simp only [c39, Bool.not_true, Bool.not_false, cond_true, cond_false]) ?_
        refine AWp.skip ?_
        refine nT ?_
        refine AWpT.block ?_
        refine AWpT.seq ?_
        refine AWpT.of ?_
        refine AWp.region ?_
        obtain ⟨⟨r41, r42, r43⟩, e40, hsK63⟩ := bindS hsK63
        refine AOps.cc hT hA {} (by (repeat (cbv; simp only [c39])); first | done | cbv) (lb rfl) (H116dw hA e40) rfl (.inl rfl) rfl rfl rfl (lb rfl) rfl rfl ?_
        refine AOps.cd hT hA {} (by (repeat (cbv; simp only [c39])); first | done | cbv) (lb rfl) ?_
        refine nT ?_
        obtain ⟨⟨v52, v53, v54, v55, v56⟩, hvK57, hsK63⟩ := bindS hsK63
        refine AWpT.cutN [2, 3, 6] [] 7 (lb rfl) (fun τ => τ = { env := [(2, (.ptr 2 0)), (3, (.ptr 3 0)), (6, (.ptr 4 0))], heap := [(.map true [.int .u8, .int .i64, .int .i64] v52), (.cells [(.d (.list 4 x5)), (.d (.list 6 x6)), (.func 66 [] []), (.map 0)]), (.cells [(.ptr 1 0)]), (.cells [(.d (.int .u8 v53)), (.d (.int .i64 v54)), (.d (.int .i64 v55))]), (.cells [(.own 1 v56)]), (.cells [(.ptr 1 0)]), (.cells [(.d (.int .u8 r41)), (.d (.int .i64 r42)), (.d (.int .i64 r43))])], n := 32 }) ?_ ?_
        · skip
          refine AWpT.block ?_
          obtain ⟨q51, e44, hvK57⟩ := bindS hvK57
          rcases q51 with r45 | ⟨r46, r47, r48, r49, r50⟩
          · replace hvK57 := (eL hvK57)
            refine AWpT.rangeFunc [2, 3, 6] (H' := [(.map true [.int .u8, .int .i64, .int .i64] r45), (.cells [(.d (.list 4 x5)), (.d (.list 6 x6)), (.func 66 [] []), (.map 0)]), (.cells [(.ptr 1 0)]), (.cells [(.d (.int .u8 v33)), (.d (.int .i64 v34)), (.d (.int .i64 v35))]), (.cells [(.own 1 v36)]), (.cells [(.ptr 1 0)]), (.cells [(.d (.int .u8 r41)), (.d (.int .i64 r42)), (.d (.int .i64 r43))]), (.loop { st := .ready, pending := none, env := [(2, (.ptr 2 0)), (3, (.ptr 3 0)), (6, (.ptr 4 0))], n := 32, params := #[20, 21], assign := HA92r0, body := HB92r0 })]) rfl (lb rfl) rfl rfl rfl (H125bwa hA e44) (st := .ready) (by decide) rfl ?_
            refine bN ?_
            refine nB ?_
            cases soI hvK57
            exact oNi ⟨rfl, (by first | (cbv; done) | ((repeat (cbv; simp only [c39])); first | done | cbv))⟩
          · replace hvK57 := (eR hvK57)
            refine AWpT.rangeFunc [2, 3, 6] (H' := [(.map true [.int .u8, .int .i64, .int .i64] r46), (.cells [(.d (.list 4 x5)), (.d (.list 6 x6)), (.func 66 [] []), (.map 0)]), (.cells [(.ptr 1 0)]), (.cells [(.d (.int .u8 r47)), (.d (.int .i64 r48)), (.d (.int .i64 r49))]), (.cells [(.own 1 r50)]), (.cells [(.ptr 1 0)]), (.cells [(.d (.int .u8 r41)), (.d (.int .i64 r42)), (.d (.int .i64 r43))]), (.loop { st := .done, pending := (some (.exit 2)), env := [(2, (.ptr 2 0)), (3, (.ptr 3 0)), (6, (.ptr 4 0))], n := 32, params := #[20, 21], assign := HA92r0, body := HB92r0 })]) rfl (lb rfl) rfl rfl rfl (H125bwb hA e44) (st := .done) (by decide) rfl ?_
            refine bC (AWpT.of (AWp.exit ?_))
            refine xB ?_
            cases soI hvK57
            exact oNi ⟨rfl, (by first | (cbv; done) | ((repeat (cbv; simp only [c39])); first | done | cbv))⟩
        · rintro _ rfl
          refine nB ?_
          exact nT ⟨_, (soI hsK63).symm, rfl, (by cbv)⟩
    · rintro _ ⟨v58, v59, v60, v61, v62, hkK63, rfl⟩
      have h := (hK63 _ hkK63)
      refine xB ?_
      refine nT ?_
      refine AWpT.of ?_
      refine AWp.seq ?_
      refine AWp.rg hT hA {} (by cbv) (lb rfl) ?_
      refine nT ?_
      refine AWp.ret ?_
      cases soI h
      exact ⟨rfl, rfl, rfl, lb rfl, _, rfl⟩

theorem H43w {A : Ar} (hA : A = Ar.std) {x1 : List D} {x2 : List D} {v14 : List D} {v15 : Int} (h : H43 A x1 x2 = some (v14, v15)) : ACall Try.prog 43 [(.d (.list 4 x1)), (.d (.list 6 x2))] [] (.tuple [(.d (.list 1 v14)), (.d (.int .i64 v15))]) [] := by
  unfold H43 at h
  refine ACall.enter hT (fn := Try.f43) Try.func43 rfl (by decide) (by simp [Try.f43]) rfl rfl rfl rfl (lb rfl) ?_
  refine AWp.seq ?_
  refine AWp.rg hT hA {} (by cbv) (lb rfl) ?_
  refine nT ?_
  refine AWp.seq ?_
  refine AWp.seq ?_
  refine AWp.region ?_
  obtain ⟨r4, e3, h⟩ := bindS h
  refine AOps.cc hT hA {} (by cbv) (lb rfl) (H71w hA e3) rfl (.inl rfl) rfl rfl rfl (lb rfl) rfl rfl ?_
  refine AOps.cd hT hA {} (by cbv) (lb rfl) ?_
  refine nT ?_
  refine AWp.seq ?_
  refine AWp.rg hT hA {} (by cbv) (lb rfl) ?_
  refine nT ?_
  rcases tf (A.zeq r4 0) with c5 | c5
  · replace h := cT c5 h
    refine AWp.cdF rfl (by first | rfl | simp only [c5, Bool.not_true, Bool.not_false, cond_true, cond_false]) ?_
    refine AWp.skip ?_
    refine nT ?_
    refine AWp.seq ?_
    refine AWp.region ?_
    obtain ⟨⟨r7, r8⟩, e6, h⟩ := bindS h
    refine AOps.cc hT hA {} (by (repeat (cbv; simp only [c5])); first | done | cbv) (lb rfl) (H72w hA e6) rfl (.inl rfl) rfl rfl rfl (lb rfl) rfl rfl ?_
    obtain ⟨⟨r10, r11, r12⟩, e9, h⟩ := bindS h
    refine AOps.cc hT hA {} (by (repeat (cbv; simp only [c5])); first | done | cbv) (lb rfl) (H92w hA e9) rfl (.inl rfl) rfl rfl rfl (lb rfl) rfl rfl ?_
    refine AOps.cd hT hA {} (by (repeat (cbv; simp only [c5])); first | done | cbv) (lb rfl) ?_
    refine nT ?_
    refine AWp.seq ?_
    refine AWp.seq ?_
    refine AWp.rg hT hA {} (by (repeat (cbv; simp only [c5])); first | done | cbv) (lb rfl) ?_
    refine nT ?_
    rcases tf r11 with c13 | c13
    · replace h := cT c13 h
      refine AWp.cdF rfl (by first | rfl | simp only [c5, c13, Bool.not_true, Bool.not_false, cond_true, cond_false]) ?_
      refine AWp.skip ?_
      refine nT ?_
      refine AWp.seq ?_
      refine AWp.rg hT hA {} (by (repeat (cbv; simp only [c5, c13])); first | done | cbv) (lb rfl) ?_
      refine nT ?_
      refine AWp.ret ?_
      cases soI h
      exact ⟨rfl, rfl, rfl, lb rfl, _, rfl⟩
    · replace h := cF c13 h
      refine AWp.cdT rfl (by first | rfl | simp only [c5, c13, Bool.not_true, Bool.not_false, cond_true, cond_false]) ?_
      refine AWp.seq ?_
      refine AWp.rg hT hA {} (by (repeat (cbv; simp only [c5, c13])); first | done | cbv) (lb rfl) ?_
      refine nT ?_
      refine AWp.ret ?_
      refine rT ?_
      cases soI h
      exact ⟨rfl, rfl, rfl, lb rfl, _, rfl⟩
  · replace h := cF c5 h
    refine AWp.cdT rfl (by first | rfl | simp only [c5, Bool.not_true, Bool.not_false, cond_true, cond_false]) ?_
    refine AWp.seq ?_
    refine AWp.rg hT hA {} (by (repeat (cbv; simp only [c5])); first | done | cbv) (lb rfl) ?_
    refine nT ?_
    refine AWp.ret ?_
    refine rT ?_
    cases soI h
    exact ⟨rfl, rfl, rfl, lb rfl, _, rfl⟩

theorem H56w {A : Ar} (hA : A = Ar.std) {x1 : List D} {x2 : List D} {v26 : Bool} (h : H56 A x1 x2 = some v26) : ACall Try.prog 56 [(.d (.list 1 x1)), (.d (.list 1 x2))] [] (.d (.bool v26)) [] := by
  unfold H56 at h
  refine ACall.enter hT (fn := Try.f56) Try.func56 rfl (by decide) (by simp [Try.f56]) rfl rfl rfl rfl (lb rfl) ?_
  refine AWp.seq ?_
  refine AWp.rg hT hA {} (by cbv) (lb rfl) ?_
  refine nT ?_
  refine AWp.seq ?_
  refine AWp.seq ?_
  refine AWp.rg hT hA {} (by cbv) (lb rfl) ?_
  refine nT ?_
  rcases tf (A.zeq (A.len x1) (A.len x2)) with c3 | c3
  · replace h := cT c3 h
    refine AWp.cdF rfl (by first | rfl | simp only [c3, Bool.not_true, Bool.not_false, cond_true, cond_false]) ?_
    refine AWp.skip ?_
    refine nT ?_
    refine AWp.seq ?_
    refine AWp.seq ?_
    refine AWp.rg hT hA {} (by (repeat (cbv; simp only [c3])); first | done | cbv) (lb rfl) ?_
    refine nT ?_
    refine AWp.block ?_
    obtain ⟨xK25, hxK25, K25, hK25, hkK25⟩ := bindK h
    refine AWp.cutX 0 [] [] 0 (lb rfl) (fun τ => K25 (.inl ()) = some v26 ∧ τ = { env := [], heap := [], n := 26 }) ?_ ?_
    · skip
      refine AWp.iter hxK25 [0, 1, 5] [] 0 (lb rfl) (fun v14 => { env := [(0, (.d (.list 1 x1))), (1, (.d (.list 1 x2))), (5, (.d (.int .i64 v14)))], heap := [], n := 26 }) ⟨rfl, (by first | (cbv; done) | ((repeat (cbv; simp only [c3])); first | done | cbv))⟩ ?_
      rintro v14 eK25 hsK25
      dsimp only [H56L0] at hsK25
      refine AWp.seq ?_
      refine AWp.seq ?_
      refine AWp.rg hT hA {} (by cbv) (lb rfl) ?_
      refine nT ?_
      rcases tf (A.zlt v14 (A.len x1)) with c15 | c15
      · replace hsK25 := cT c15 hsK25
        refine AWp.cdT rfl (by first | rfl | simp only [c15, Bool.not_true, Bool.not_false, cond_true, cond_false]) ?_
        refine AWp.skip ?_
        refine nT ?_
        refine AWp.seq ?_
        refine AWp.block ?_
        refine AWp.seq ?_
        obtain ⟨a16, e17, hsK25⟩ := bindS hsK25
        obtain ⟨f18, f19⟩ := gtI e17
        obtain ⟨a20, e21, hsK25⟩ := bindS hsK25
        obtain ⟨f22, f23⟩ := gtI e21
        refine AWp.rd hT hA {} rfl (by (repeat (cbv; simp only [c15, f18, f19, f22, f23])); first | done | cbv) (by kernel_rfl) (lb rfl) ?_
        refine nT ?_
        rcases tf (A.zeq a16 a20) with c24 | c24
        · replace hsK25 := cT c24 hsK25
          refine AWp.cdF rfl (by first | rfl | simp only [c15, c24, Bool.not_true, Bool.not_false, cond_true, cond_false]) ?_
          refine AWp.skip ?_
          refine nB ?_
          refine nT ?_
          refine AWp.rg hT hA {} (by (repeat (cbv; simp only [c15, c24])); first | done | cbv) (lb rfl) ?_
          exact nT ⟨_, (soI hsK25).symm, rfl, (by first | (cbv; done) | ((repeat (cbv; simp only [c15, c24])); first | done | cbv))⟩
        · replace hsK25 := cF c24 hsK25
          refine AWp.cdT rfl (by first | rfl | simp only [c15, c24, Bool.not_true, Bool.not_false, cond_true, cond_false]) ?_
          refine AWp.seq ?_
          refine AWp.rg hT hA {} (by (repeat (cbv; simp only [c15, c24])); first | done | cbv) (lb rfl) ?_
          refine nT ?_
          refine AWp.ret ?_
          refine rB ?_
          refine rT ?_
          refine rT ?_
          refine exL hsK25 fun hx => ?_
          subst hx
          refine oxR ?_
          replace hkK25 := (eR (hK25 _ hkK25))
          refine rB ?_
          refine rT ?_
          cases soI hkK25
          exact ⟨rfl, rfl, rfl, lb rfl, _, rfl⟩
      · replace hsK25 := cF c15 hsK25
        refine AWp.cdF rfl (by first | rfl | simp only [c15, Bool.not_true, Bool.not_false, cond_true, cond_false]) ?_
        refine AWp.exit ?_
        refine xT ?_
        refine xT ?_
        refine exL hsK25 fun hx => ?_
        subst hx
        exact oxI ⟨rfl, hkK25, (by first | (cbv; done) | ((repeat (cbv; simp only [c15])); first | done | cbv))⟩
    · rintro _ ⟨hkK25, rfl⟩
      have h := (eL (hK25 _ hkK25))
      refine xB ?_
      refine nT ?_
      refine AWp.seq ?_
      refine AWp.rg hT hA {} (by cbv) (lb rfl) ?_
      refine nT ?_
      refine AWp.ret ?_
      cases soI h
      exact ⟨rfl, rfl, rfl, lb rfl, _, rfl⟩
  · replace h := cF c3 h
    refine AWp.cdT rfl (by first | rfl | simp only [c3, Bool.not_true, Bool.not_false, cond_true, cond_false]) ?_
    refine AWp.seq ?_
    refine AWp.rg hT hA {} (by (repeat (cbv; simp only [c3])); first | done | cbv) (lb rfl) ?_
    refine nT ?_
    refine AWp.ret ?_
    refine rT ?_
    cases soI h
    exact ⟨rfl, rfl, rfl, lb rfl, _, rfl⟩

theorem H19w {A : Ar} (hA : A = Ar.std) {v9 : Bool} (h : H19 A = some v9) : ACall Try.prog 19 [] [] (.d (.bool v9)) [] := by
  unfold H19 at h
  refine ACall.enter hT (fn := Try.f19) Try.func19 rfl (by decide) (by simp [Try.f19]) rfl rfl rfl rfl (lb rfl) ?_
  refine AWp.seq ?_
  refine AWp.rg hT hA {} (by cbv) (lb rfl) ?_
  refine nT ?_
  refine AWp.seq ?_
  refine AWp.rg hT hA { tk := [10] } (by cbv) (lb rfl) ?_
  refine nT ?_
  refine AWp.seq ?_
  refine AWp.region ?_
  obtain ⟨⟨r2, r3⟩, e1, h⟩ := bindS h
  refine AOps.cc hT hA {} (by cbv) (lb rfl) (H43w hA e1) rfl (.inl rfl) rfl rfl rfl (lb rfl) rfl rfl ?_
  refine AOps.cd hT hA {} (by cbv) (lb rfl) ?_
  refine nT ?_
  refine AWp.seq ?_
  obtain ⟨v7, hvK8, h⟩ := bindS h
  refine AWp.cutN [0] [] 0 (lb rfl) (fun τ => τ = { env := [(0, (.d (.bool v7)))], heap := [], n := 27 }) ?_ ?_
  · skip
    refine AWp.region ?_
    rcases tf (A.zeq r3 0) with c4 | c4
    · replace hvK8 := cT c4 hvK8
      obtain ⟨r6, e5, hvK8⟩ := bindS hvK8
      refine AOps.cc hT hA { tk := [26] } (by (repeat (cbv; simp only [c4])); first | done | cbv) (lb rfl) (H56w hA e5) rfl (.inl rfl) rfl rfl rfl (lb rfl) rfl rfl ?_
      refine AOps.cd hT hA { tk := [26] } (by (repeat (cbv; simp only [c4])); first | done | cbv) (lb rfl) ?_
      cases soI hvK8
      exact oNi ⟨rfl, (by first | (cbv; done) | ((repeat (cbv; simp only [c4])); first | done | cbv))⟩
    · replace hvK8 := cF c4 hvK8
      refine AOps.cd hT hA { tk := [26] } (by (repeat (cbv; simp only [c4])); first | done | cbv) (lb rfl) ?_
      cases soI hvK8
      exact oNi ⟨rfl, (by first | (cbv; done) | ((repeat (cbv; simp only [c4])); first | done | cbv))⟩
  · rintro _ rfl
    refine nT ?_
    refine AWp.ret ?_
    cases soI h
    exact ⟨rfl, rfl, rfl, lb rfl, _, rfl⟩

theorem H123w {A : Ar} (hA : A = Ar.std) {x1 : Int} {x2 : Int} {x3 : List D} {x4 : List D} {x5 : List D} {x6 : Int} {v62 : Bool} (h : H123 A x1 x2 x3 x4 x5 x6 = some v62) : ACall Try.prog 123 [(.d (.agg [(.int .i64 x1), (.int .i64 x2), (.list 1 x3), (.list 1 x4)])), (.d (.list 1 x5)), (.d (.int .i64 x6))] [] (.d (.bool v62)) [] := by
  unfold H123 at h
  refine ACall.enter hT (fn := Try.f123) Try.func123 rfl (by decide) (by simp [Try.f123]) rfl rfl rfl rfl (lb rfl) ?_
  refine AWp.seq ?_
  refine AWp.rg hT hA {} (by cbv) (lb rfl) ?_
  refine nT ?_
  refine AWp.seq ?_
  refine AWp.seq ?_
  refine AWp.rg hT hA {} (by cbv) (lb rfl) ?_
  refine nT ?_
  rcases tf (A.zeq (A.len x5) x1) with c7 | c7
  · replace h := cT c7 h
    refine AWp.cdF rfl (by first | rfl | simp only [c7, Bool.not_true, Bool.not_false, cond_true, cond_false]) ?_
    refine AWp.skip ?_
    refine nT ?_
    refine AWp.seq ?_
    refine AWp.seq ?_
    refine AWp.rg hT hA {} (by (repeat (cbv; simp only [c7])); first | done | cbv) (lb rfl) ?_
    refine nT ?_
    refine AWp.block ?_
    obtain ⟨xK61, hxK61, K61, hK61, hkK61⟩ := bindK h
    refine AWp.cutX 0 [] [] 0 (lb rfl) (fun τ => K61 (.inl ()) = some v62 ∧ τ = { env := [], heap := [], n := 42 }) ?_ ?_
    · skip
      refine AWp.iter hxK61 [2, 3, 16, 17, 18] [] 0 (lb rfl) (fun v34 => { env := [(2, (.d (.int .i64 x6))), (3, (.lbox [(.d (.int .i64 x1)), (.d (.int .i64 x2)), (.d (.list 1 x3)), (.d (.list 1 x4))])), (16, (.d (.list 1 x5))), (17, (.d (.int .i64 (A.len x5)))), (18, (.d (.int .i64 v34)))], heap := [], n := 42 }) ⟨rfl, (by first | (cbv; done) | ((repeat (cbv; simp only [c7])); first | done | cbv))⟩ ?_
      rintro v34 eK61 hsK61
      dsimp only [H123L1] at hsK61
      refine AWp.seq ?_
      refine AWp.rg hT hA {} (by cbv) (lb rfl) ?_
      refine nT ?_
      refine AWp.seq ?_
      rcases tf (A.zlt v34 (A.len x5)) with c35 | c35
      · replace hsK61 := cT c35 hsK61
        refine AWp.cdT rfl (by first | rfl | simp only [c35, Bool.not_true, Bool.not_false, cond_true, cond_false]) ?_
        refine AWp.skip ?_
        refine nT ?_
        refine AWp.seq ?_
        refine AWp.block ?_
        refine AWp.seq ?_
        obtain ⟨a36, e37, hsK61⟩ := bindS hsK61
        obtain ⟨f38, f39⟩ := gtI e37
        refine AWp.rg hT hA {} (by (repeat (cbv; simp only [c35, f38, f39])); first | done | cbv) (lb rfl) ?_
        refine nT ?_
        refine AWp.seq ?_
        refine AWp.seq ?_
        refine AWp.rg hT hA {} (by (repeat (cbv; simp only [c35])); first | done | cbv) (lb rfl) ?_
        refine nT ?_
        rcases tf (A.zeq (A.len a36) x2) with c40 | c40
        · replace hsK61 := cT c40 hsK61
          refine AWp.cdF rfl (by first | rfl | simp only [c35, c40, Bool.not_true, Bool.not_false, cond_true, cond_false]) ?_
          refine AWp.skip ?_
          refine nT ?_
          refine AWp.seq ?_
          refine AWp.rg hT hA {} (by (repeat (cbv; simp only [c35, c40])); first | done | cbv) (lb rfl) ?_
          refine nT ?_
          refine AWp.block ?_
          obtain ⟨xK60, hxK60, K60, hK60, hkK60⟩ := bindK hsK61
          refine AWp.cutX 2 [2, 3, 16, 17, 18] [] 0 (lb rfl) (fun τ => K60 (.inl ()) = some eK61 ∧ τ = { env := [(2, (.d (.int .i64 x6))), (3, (.lbox [(.d (.int .i64 x1)), (.d (.int .i64 x2)), (.d (.list 1 x3)), (.d (.list 1 x4))])), (16, (.d (.list 1 x5))), (17, (.d (.int .i64 (A.len x5)))), (18, (.d (.int .i64 v34)))], heap := [], n := 42 }) ?_ ?_
          · skip
            refine AWp.iter hxK60 [2, 3, 16, 17, 18, 27, 28, 29] [] 0 (lb rfl) (fun v50 => { env := [(2, (.d (.int .i64 x6))), (3, (.lbox [(.d (.int .i64 x1)), (.d (.int .i64 x2)), (.d (.list 1 x3)), (.d (.list 1 x4))])), (16, (.d (.list 1 x5))), (17, (.d (.int .i64 (A.len x5)))), (18, (.d (.int .i64 v34))), (27, (.d (.list 1 a36))), (28, (.d (.int .i64 (A.len a36)))), (29, (.d (.int .i64 v50)))], heap := [], n := 42 }) ⟨rfl, (by first | (cbv; done) | ((repeat (cbv; simp only [c35, c40])); first | done | cbv))⟩ ?_
            rintro v50 eK60 hsK60
            dsimp only [H123L0] at hsK60
            refine AWp.seq ?_
            refine AWp.rg hT hA {} (by cbv) (lb rfl) ?_
            refine nT ?_
            refine AWp.seq ?_
            rcases tf (A.zlt v50 (A.len a36)) with c51 | c51
            · replace hsK60 := cT c51 hsK60
              refine AWp.cdT rfl (by first | rfl | simp only [c51, Bool.not_true, Bool.not_false, cond_true, cond_false]) ?_
              refine AWp.skip ?_
              refine nT ?_
              refine AWp.seq ?_
              refine AWp.block ?_
              refine AWp.seq ?_
              obtain ⟨a52, e53, hsK60⟩ := bindS hsK60
              obtain ⟨f54, f55⟩ := gtI e53
              refine AWp.rg hT hA {} (by (repeat (cbv; simp only [c51, f54, f55])); first | done | cbv) (lb rfl) ?_
              refine nT ?_
              refine AWp.seq ?_
              obtain ⟨v57, hvK58, hsK60⟩ := bindS hsK60
              refine AWp.cutN [2, 3, 16, 17, 18, 27, 28, 29, 39] [] 0 (lb rfl) (fun τ => τ = { env := [(2, (.d (.int .i64 x6))), (3, (.lbox [(.d (.int .i64 x1)), (.d (.int .i64 x2)), (.d (.list 1 x3)), (.d (.list 1 x4))])), (16, (.d (.list 1 x5))), (17, (.d (.int .i64 (A.len x5)))), (18, (.d (.int .i64 v34))), (27, (.d (.list 1 a36))), (28, (.d (.int .i64 (A.len a36)))), (29, (.d (.int .i64 v50))), (39, (.d (.bool v57)))], heap := [], n := 42 }) ?_ ?_
              · skip
                rcases tf (A.zlt a52 0) with c56 | c56
                · replace hvK58 := cT c56 hvK58
                  refine AWp.rg hT hA {} (by (repeat (cbv; simp only [c51, c56])); first | done | cbv) (lb rfl) ?_
                  cases soI hvK58
                  exact oNi ⟨rfl, (by first | (cbv; done) | ((repeat (cbv; simp only [c51, c56])); first | done | cbv))⟩
                · replace hvK58 := cF c56 hvK58
                  refine AWp.rg hT hA {} (by (repeat (cbv; simp only [c51, c56])); first | done | cbv) (lb rfl) ?_
                  cases soI hvK58
                  exact oNi ⟨rfl, (by first | (cbv; done) | ((repeat (cbv; simp only [c51, c56])); first | done | cbv))⟩
              · rintro _ rfl
                refine nT ?_
                rcases tf v57 with c59 | c59
                · replace hsK60 := cT c59 hsK60
                  refine AWp.cdT rfl (by first | rfl | simp only [c59, Bool.not_true, Bool.not_false, cond_true, cond_false]) ?_
                  refine AWp.seq ?_
                  refine AWp.rg hT hA {} (by (repeat (cbv; simp only [c59])); first | done | cbv) (lb rfl) ?_
                  refine nT ?_
                  refine AWp.ret ?_
                  refine rB ?_
                  refine rT ?_
                  refine rT ?_
                  refine exL hsK60 fun hx => ?_
                  subst hx
                  refine oxR ?_
                  replace hkK60 := (eR (hK60 _ hkK60))
                  refine rB ?_
                  refine rB ?_
                  refine rT ?_
                  refine rT ?_
                  refine exL hkK60 fun hx => ?_
                  subst hx
                  refine oxR ?_
                  replace hkK61 := (eR (hK61 _ hkK61))
                  refine rB ?_
                  refine rT ?_
                  cases soI hkK61
                  exact ⟨rfl, rfl, rfl, lb rfl, _, rfl⟩
                · replace hsK60 := cF c59 hsK60
                  refine AWp.cdF rfl (by first | rfl | simp only [c59, Bool.not_true, Bool.not_false, cond_true, cond_false]) ?_
                  refine AWp.skip ?_
                  refine nB ?_
                  refine nT ?_
                  refine AWp.rg hT hA {} (by (repeat (cbv; simp only [c59])); first | done | cbv) (lb rfl) ?_
                  exact nT ⟨_, (soI hsK60).symm, rfl, (by first | (cbv; done) | ((repeat (cbv; simp only [c59])); first | done | cbv))⟩
            · replace hsK60 := cF c51 hsK60
              refine AWp.cdF rfl (by first | rfl | simp only [c51, Bool.not_true, Bool.not_false, cond_true, cond_false]) ?_
              refine AWp.exit ?_
              refine xT ?_
              refine xT ?_
              refine exL hsK60 fun hx => ?_
              subst hx
              exact oxI ⟨rfl, hkK60, (by first | (cbv; done) | ((repeat (cbv; simp only [c51])); first | done | cbv))⟩
          · rintro _ ⟨hkK60, rfl⟩
            have hsK61 := (eL (hK60 _ hkK60))
            refine xB ?_
            refine nB ?_
            refine nT ?_
            refine AWp.rg hT hA {} (by cbv) (lb rfl) ?_
            exact nT ⟨_, (soI hsK61).symm, rfl, (by cbv)⟩
        · replace hsK61 := cF c40 hsK61
          refine AWp.cdT rfl (by first | rfl | simp only [c35, c40, Bool.not_true, Bool.not_false, cond_true, cond_false]) ?_
          refine AWp.seq ?_
          refine AWp.rg hT hA {} (by (repeat (cbv; simp only [c35, c40])); first | done | cbv) (lb rfl) ?_
          refine nT ?_
          refine AWp.ret ?_
          refine rT ?_
          refine rB ?_
          refine rT ?_
          refine rT ?_
          refine exL hsK61 fun hx => ?_
          subst hx
          refine oxR ?_
          replace hkK61 := (eR (hK61 _ hkK61))
          refine rB ?_
          refine rT ?_
          cases soI hkK61
          exact ⟨rfl, rfl, rfl, lb rfl, _, rfl⟩
      · replace hsK61 := cF c35 hsK61
        refine AWp.cdF rfl (by first | rfl | simp only [c35, Bool.not_true, Bool.not_false, cond_true, cond_false]) ?_
        refine AWp.exit ?_
        refine xT ?_
        refine xT ?_
        refine exL hsK61 fun hx => ?_
        subst hx
        exact oxI ⟨rfl, hkK61, (by first | (cbv; done) | ((repeat (cbv; simp only [c35])); first | done | cbv))⟩
    · rintro _ ⟨hkK61, rfl⟩
      have h := (eL (hK61 _ hkK61))
      refine xB ?_
      refine nT ?_
      refine AWp.seq ?_
      refine AWp.rg hT hA {} (by cbv) (lb rfl) ?_
      refine nT ?_
      refine AWp.ret ?_
      cases soI h
      exact ⟨rfl, rfl, rfl, lb rfl, _, rfl⟩
  · replace h := cF c7 h
    refine AWp.cdT rfl (by first | rfl | simp only [c7, Bool.not_true, Bool.not_false, cond_true, cond_false]) ?_
    refine AWp.seq ?_
    refine AWp.rg hT hA {} (by (repeat (cbv; simp only [c7])); first | done | cbv) (lb rfl) ?_
    refine nT ?_
    refine AWp.ret ?_
    refine rT ?_
    cases soI h
    exact ⟨rfl, rfl, rfl, lb rfl, _, rfl⟩

theorem H114w {A : Ar} (hA : A = Ar.std) {x1 : Int} {x2 : Int} {x3 : List D} {x4 : List D} {v16 : Bool} (h : H114 A x1 x2 x3 x4 = some v16) : ACall Try.prog 114 [(.d (.agg [(.int .i64 x1), (.int .i64 x2), (.list 1 x3), (.list 1 x4)]))] [] (.d (.bool v16)) [] := by
  unfold H114 at h
  refine ACall.enter hT (fn := Try.f114) Try.func114 rfl (by decide) (by simp [Try.f114]) rfl rfl rfl rfl (lb rfl) ?_
  refine AWp.seq ?_
  refine AWp.rg hT hA {} (by cbv) (lb rfl) ?_
  refine nT ?_
  refine AWp.seq ?_
  obtain ⟨v14, hvK15, h⟩ := bindS h
  refine AWp.cutN [2] [] 0 (lb rfl) (fun τ => τ = { env := [(2, (.d (.bool v14)))], heap := [], n := 35 }) ?_ ?_
  · skip
    refine AWp.region ?_
    rcases tf (A.zle 1 x1) with c5 | c5
    · replace hvK15 := cT c5 hvK15
      rcases tf (A.zle x1 8) with c6 | c6
      · replace hvK15 := cT c6 hvK15
        rcases tf (A.zle 1 x2) with c7 | c7
        · replace hvK15 := cT c7 hvK15
          rcases tf (A.zle x2 4) with c8 | c8
          · replace hvK15 := cT c8 hvK15
            obtain ⟨r10, e9, hvK15⟩ := bindS hvK15
            refine AOps.cc hT hA { tk := [34] } (by (repeat (cbv; simp only [c5, c6, c7, c8])); first | done | cbv) (lb rfl) (H123w hA e9) rfl (.inl rfl) rfl rfl rfl (lb rfl) rfl rfl ?_
            rcases tf r10 with c11 | c11
            · replace hvK15 := cT c11 hvK15
              obtain ⟨r13, e12, hvK15⟩ := bindS hvK15
              refine AOps.cc hT hA { tk := [34] } (by (repeat (cbv; simp only [c5, c6, c7, c8, c11])); first | done | cbv) (lb rfl) (H123w hA e12) rfl (.inl rfl) rfl rfl rfl (lb rfl) rfl rfl ?_
              refine AOps.cd hT hA { tk := [34] } (by (repeat (cbv; simp only [c5, c6, c7, c8, c11])); first | done | cbv) (lb rfl) ?_
              cases soI hvK15
              exact oNi ⟨rfl, (by first | (cbv; done) | ((repeat (cbv; simp only [c5, c6, c7, c8, c11])); first | done | cbv))⟩
            · replace hvK15 := cF c11 hvK15
              refine AOps.cd hT hA { tk := [34] } (by (repeat (cbv; simp only [c5, c6, c7, c8, c11])); first | done | cbv) (lb rfl) ?_
              cases soI hvK15
              exact oNi ⟨rfl, (by first | (cbv; done) | ((repeat (cbv; simp only [c5, c6, c7, c8, c11])); first | done | cbv))⟩
          · replace hvK15 := cF c8 hvK15
            refine AOps.cd hT hA { tk := [34] } (by (repeat (cbv; simp only [c5, c6, c7, c8])); first | done | cbv) (lb rfl) ?_
            cases soI hvK15
            exact oNi ⟨rfl, (by first | (cbv; done) | ((repeat (cbv; simp only [c5, c6, c7, c8])); first | done | cbv))⟩
        · replace hvK15 := cF c7 hvK15
          refine AOps.cd hT hA { tk := [34] } (by (repeat (cbv; simp only [c5, c6, c7])); first | done | cbv) (lb rfl) ?_
          cases soI hvK15
          exact oNi ⟨rfl, (by first | (cbv; done) | ((repeat (cbv; simp only [c5, c6, c7])); first | done | cbv))⟩
      · replace hvK15 := cF c6 hvK15
        refine AOps.cd hT hA { tk := [34] } (by (repeat (cbv; simp only [c5, c6])); first | done | cbv) (lb rfl) ?_
        cases soI hvK15
        exact oNi ⟨rfl, (by first | (cbv; done) | ((repeat (cbv; simp only [c5, c6])); first | done | cbv))⟩
    · replace hvK15 := cF c5 hvK15
      refine AOps.cd hT hA { tk := [34] } (by (repeat (cbv; simp only [c5])); first | done | cbv) (lb rfl) ?_
      cases soI hvK15
      exact oNi ⟨rfl, (by first | (cbv; done) | ((repeat (cbv; simp only [c5])); first | done | cbv))⟩
  · rintro _ rfl
    refine nT ?_
    refine AWp.ret ?_
    cases soI h
    exact ⟨rfl, rfl, rfl, lb rfl, _, rfl⟩

theorem H67w {A : Ar} (hA : A = Ar.std) {x1 : Int} {x2 : Int} {x3 : Int} {v7 : Bool} (h : H67 A x1 x2 x3 = some v7) : ACall Try.prog 67 [(.d (.int .i64 x1)), (.d (.int .i64 x2)), (.d (.int .i64 x3))] [] (.d (.bool v7)) [] := by
  unfold H67 at h
  refine ACall.enter hT (fn := Try.f67) Try.func67 rfl (by decide) (by simp [Try.f67]) rfl rfl rfl rfl (lb rfl) ?_
  refine AWp.seq ?_
  refine AWp.rg hT hA {} (by cbv) (lb rfl) ?_
  refine nT ?_
  refine AWp.seq ?_
  obtain ⟨v5, hvK6, h⟩ := bindS h
  refine AWp.cutN [6] [] 0 (lb rfl) (fun τ => τ = { env := [(6, (.d (.bool v5)))], heap := [], n := 15 }) ?_ ?_
  · skip
    rcases tf (A.zle x1 x2) with c4 | c4
    · replace hvK6 := cT c4 hvK6
      refine AWp.rg hT hA { tk := [14] } (by (repeat (cbv; simp only [c4])); first | done | cbv) (lb rfl) ?_
      cases soI hvK6
      exact oNi ⟨rfl, (by first | (cbv; done) | ((repeat (cbv; simp only [c4])); first | done | cbv))⟩
    · replace hvK6 := cF c4 hvK6
      refine AWp.rg hT hA { tk := [14] } (by (repeat (cbv; simp only [c4])); first | done | cbv) (lb rfl) ?_
      cases soI hvK6
      exact oNi ⟨rfl, (by first | (cbv; done) | ((repeat (cbv; simp only [c4])); first | done | cbv))⟩
  · rintro _ rfl
    refine nT ?_
    refine AWp.ret ?_
    cases soI h
    exact ⟨rfl, rfl, rfl, lb rfl, _, rfl⟩

theorem H60w {A : Ar} (hA : A = Ar.std) {x1 : List D} {v28 : Bool} (h : H60 A x1 = some v28) : ACall Try.prog 60 [(.d (.list 4 x1))] [] (.d (.bool v28)) [] := by
  unfold H60 at h
  refine ACall.enter hT (fn := Try.f60) Try.func60 rfl (by decide) (by simp [Try.f60]) rfl rfl rfl rfl (lb rfl) ?_
  refine AWp.seq ?_
  refine AWp.rg hT hA {} (by cbv) (lb rfl) ?_
  refine nT ?_
  refine AWp.seq ?_
  refine AWp.seq ?_
  refine AWp.rg hT hA {} (by cbv) (lb rfl) ?_
  refine nT ?_
  refine AWp.block ?_
  obtain ⟨xK25, hxK25, K25, hK25, hkK25⟩ := bindK h
  refine AWp.cutX 0 [0] [] 0 (lb rfl) (fun τ => K25 (.inl ()) = some v28 ∧ τ = { env := [(0, (.d (.list 4 x1)))], heap := [], n := 19 }) ?_ ?_
  · skip
    refine AWp.iter hxK25 [0, 3] [] 0 (lb rfl) (fun v13 => { env := [(0, (.d (.list 4 x1))), (3, (.d (.int .i64 v13)))], heap := [], n := 19 }) ⟨rfl, (by cbv)⟩ ?_
    rintro v13 eK25 hsK25
    dsimp only [H60L0] at hsK25
    refine AWp.seq ?_
    refine AWp.seq ?_
    refine AWp.rg hT hA {} (by cbv) (lb rfl) ?_
    refine nT ?_
    rcases tf (A.zlt v13 (A.len x1)) with c14 | c14
    · replace hsK25 := cT c14 hsK25
      refine AWp.cdT rfl (by first | rfl | simp only [c14, Bool.not_true, Bool.not_false, cond_true, cond_false]) ?_
      refine AWp.skip ?_
      refine nT ?_
      refine AWp.seq ?_
      refine AWp.block ?_
      refine AWp.seq ?_
      refine AWp.region ?_
      obtain ⟨⟨a15, a16, a17, a18⟩, e19, hsK25⟩ := bindS hsK25
      obtain ⟨f20, f21⟩ := gtI e19
      obtain ⟨r23, e22, hsK25⟩ := bindS hsK25
      refine AOps.cc hT hA {} (by (repeat (cbv; simp only [c14, f20, f21])); first | done | cbv) (lb rfl) (H114w hA e22) rfl (.inl rfl) rfl rfl rfl (lb rfl) rfl rfl ?_
      refine AOps.cd hT hA {} (by (repeat (cbv; simp only [c14, f20, f21])); first | done | cbv) (lb rfl) ?_
      refine nT ?_
      rcases tf r23 with c24 | c24
      · replace hsK25 := cT c24 hsK25
        refine AWp.cdF rfl (by first | rfl | simp only [c14, c24, Bool.not_true, Bool.not_false, cond_true, cond_false]) ?_
        refine AWp.skip ?_
        refine nB ?_
        refine nT ?_
        refine AWp.rg hT hA {} (by (repeat (cbv; simp only [c14, c24])); first | done | cbv) (lb rfl) ?_
        exact nT ⟨_, (soI hsK25).symm, rfl, (by first | (cbv; done) | ((repeat (cbv; simp only [c14, c24])); first | done | cbv))⟩
      · replace hsK25 := cF c24 hsK25
        refine AWp.cdT rfl (by first | rfl | simp only [c14, c24, Bool.not_true, Bool.not_false, cond_true, cond_false]) ?_
        refine AWp.seq ?_
        refine AWp.rg hT hA {} (by (repeat (cbv; simp only [c14, c24])); first | done | cbv) (lb rfl) ?_
        refine nT ?_
        refine AWp.ret ?_
        refine rB ?_
        refine rT ?_
        refine rT ?_
        refine exL hsK25 fun hx => ?_
        subst hx
        refine oxR ?_
        replace hkK25 := (eR (hK25 _ hkK25))
        refine rB ?_
        refine rT ?_
        cases soI hkK25
        exact ⟨rfl, rfl, rfl, lb rfl, _, rfl⟩
    · replace hsK25 := cF c14 hsK25
      refine AWp.cdF rfl (by first | rfl | simp only [c14, Bool.not_true, Bool.not_false, cond_true, cond_false]) ?_
      refine AWp.exit ?_
      refine xT ?_
      refine xT ?_
      refine exL hsK25 fun hx => ?_
      subst hx
      exact oxI ⟨rfl, hkK25, (by first | (cbv; done) | ((repeat (cbv; simp only [c14])); first | done | cbv))⟩
  · rintro _ ⟨hkK25, rfl⟩
    have h := (eL (hK25 _ hkK25))
    refine xB ?_
    refine nT ?_
    refine AWp.seq ?_
    refine AWp.region ?_
    obtain ⟨r27, e26, h⟩ := bindS h
    refine AOps.cc hT hA { tk := [18] } (by cbv) (lb rfl) (H67w hA e26) rfl (.inl rfl) rfl rfl rfl (lb rfl) rfl rfl ?_
    refine AOps.cd hT hA { tk := [18] } (by cbv) (lb rfl) ?_
    refine nT ?_
    refine AWp.ret ?_
    cases soI h
    exact ⟨rfl, rfl, rfl, lb rfl, _, rfl⟩

theorem H68w {A : Ar} (hA : A = Ar.std) {x1 : Int} {x2 : Int} {x3 : Int} {x4 : Int} {x5 : Int} {x6 : Int} {x7 : Int} {x8 : Int} {x9 : Int} {x10 : Int} {x11 : Int} {x12 : Int} {v16 : Bool} (h : H68 A x1 x2 x3 x4 x5 x6 x7 x8 x9 x10 x11 x12 = some v16) : ACall Try.prog 68 [(.d (.agg [(.int .i64 x1), (.int .i64 x2), (.int .i64 x3), (.int .i64 x4), (.int .i64 x5), (.int .i64 x6)])), (.d (.agg [(.int .i64 x7), (.int .i64 x8), (.int .i64 x9), (.int .i64 x10), (.int .i64 x11), (.int .i64 x12)]))] [] (.d (.bool v16)) [] := by
  unfold H68 at h
  refine ACall.enter hT (fn := Try.f68) Try.func68 rfl (by decide) (by simp [Try.f68]) rfl rfl rfl rfl (lb rfl) ?_
  refine AWp.seq ?_
  refine AWp.rg hT hA {} (by cbv) (lb rfl) ?_
  refine nT ?_
  refine AWp.seq ?_
  obtain ⟨v14, hvK15, h⟩ := bindS h
  refine AWp.cutN [4] [] 0 (lb rfl) (fun τ => τ = { env := [(4, (.d (.bool v14)))], heap := [], n := 15 }) ?_ ?_
  · skip
    rcases tf (A.zeq x6 0) with c13 | c13
    · replace hvK15 := cT c13 hvK15
      refine AWp.rg hT hA { tk := [14] } (by (repeat (cbv; simp only [c13])); first | done | cbv) (lb rfl) ?_
      cases soI hvK15
      exact oNi ⟨rfl, (by first | (cbv; done) | ((repeat (cbv; simp only [c13])); first | done | cbv))⟩
    · replace hvK15 := cF c13 hvK15
      refine AWp.rg hT hA { tk := [14] } (by (repeat (cbv; simp only [c13])); first | done | cbv) (lb rfl) ?_
      cases soI hvK15
      exact oNi ⟨rfl, (by first | (cbv; done) | ((repeat (cbv; simp only [c13])); first | done | cbv))⟩
  · rintro _ rfl
    refine nT ?_
    refine AWp.ret ?_
    cases soI h
    exact ⟨rfl, rfl, rfl, lb rfl, _, rfl⟩

theorem H70w {A : Ar} (hA : A = Ar.std) {x1 : Int} {x2 : Int} {x3 : Int} {x4 : Int} {x5 : Int} {x6 : Int} {x7 : Int} {x8 : Int} {x9 : Int} {x10 : Int} {x11 : Int} {x12 : Int} {v28 : Bool} (h : H70 A x1 x2 x3 x4 x5 x6 x7 x8 x9 x10 x11 x12 = some v28) : ACall Try.prog 70 [(.d (.agg [(.int .i64 x1), (.int .i64 x2), (.int .i64 x3), (.int .i64 x4), (.int .i64 x5), (.int .i64 x6)])), (.d (.agg [(.int .i64 x7), (.int .i64 x8), (.int .i64 x9), (.int .i64 x10), (.int .i64 x11), (.int .i64 x12)]))] [] (.d (.bool v28)) [] := by
  unfold H70 at h
  refine ACall.enter hT (fn := Try.f70) Try.func70 rfl (by decide) (by simp [Try.f70]) rfl rfl rfl rfl (lb rfl) ?_
  refine AWp.seq ?_
  refine AWp.rg hT hA {} (by cbv) (lb rfl) ?_
  refine nT ?_
  refine AWp.seq ?_
  refine AWp.seq ?_
  obtain ⟨v17, hvK18, h⟩ := bindS h
  refine AWp.cutN [2, 3, 35] [] 0 (lb rfl) (fun τ => τ = { env := [(2, (.lbox [(.d (.int .i64 x1)), (.d (.int .i64 x2)), (.d (.int .i64 x3)), (.d (.int .i64 x4)), (.d (.int .i64 x5)), (.d (.int .i64 x6))])), (3, (.lbox [(.d (.int .i64 x7)), (.d (.int .i64 x8)), (.d (.int .i64 x9)), (.d (.int .i64 x10)), (.d (.int .i64 x11)), (.d (.int .i64 x12))])), (35, (.d (.bool v17)))], heap := [], n := 53 }) ?_ ?_
  · skip
    rcases tf (A.zeq x5 x11) with c13 | c13
    · replace hvK18 := cT c13 hvK18
      refine AWp.rg hT hA {} (by (repeat (cbv; simp only [c13])); first | done | cbv) (lb rfl) ?_
      cases soI hvK18
      exact oNi ⟨rfl, (by first | (cbv; done) | ((repeat (cbv; simp only [c13])); first | done | cbv))⟩
    · replace hvK18 := cF c13 hvK18
      rcases tf (A.zeq x5 x12) with c14 | c14
      · replace hvK18 := cT c14 hvK18
        refine AWp.rg hT hA {} (by (repeat (cbv; simp only [c13, c14])); first | done | cbv) (lb rfl) ?_
        cases soI hvK18
        exact oNi ⟨rfl, (by first | (cbv; done) | ((repeat (cbv; simp only [c13, c14])); first | done | cbv))⟩
      · replace hvK18 := cF c14 hvK18
        rcases tf (A.zeq x6 x11) with c15 | c15
        · replace hvK18 := cT c15 hvK18
          refine AWp.rg hT hA {} (by (repeat (cbv; simp only [c13, c14, c15])); first | done | cbv) (lb rfl) ?_
          cases soI hvK18
          exact oNi ⟨rfl, (by first | (cbv; done) | ((repeat (cbv; simp only [c13, c14, c15])); first | done | cbv))⟩
        · replace hvK18 := cF c15 hvK18
          rcases tf (A.zeq x6 0) with c16 | c16
          · replace hvK18 := cT c16 hvK18
            refine AWp.rg hT hA {} (by (repeat (cbv; simp only [c13, c14, c15, c16])); first | done | cbv) (lb rfl) ?_
            cases soI hvK18
            exact oNi ⟨rfl, (by first | (cbv; done) | ((repeat (cbv; simp only [c13, c14, c15, c16])); first | done | cbv))⟩
          · replace hvK18 := cF c16 hvK18
            refine AWp.rg hT hA {} (by (repeat (cbv; simp only [c13, c14, c15, c16])); first | done | cbv) (lb rfl) ?_
            cases soI hvK18
            exact oNi ⟨rfl, (by first | (cbv; done) | ((repeat (cbv; simp only [c13, c14, c15, c16])); first | done | cbv))⟩
  · rintro _ rfl
    refine nT ?_
    rcases tf v17 with c19 | c19
    · replace h := cT c19 h
      refine AWp.cdT rfl (by first | rfl | simp only [c19, Bool.not_true, Bool.not_false, cond_true, cond_false]) ?_
      refine AWp.seq ?_
      refine AWp.rg hT hA {} (by (repeat (cbv; simp only [c19])); first | done | cbv) (lb rfl) ?_
      refine nT ?_
      refine AWp.ret ?_
      refine rT ?_
      cases soI h
      exact ⟨rfl, rfl, rfl, lb rfl, _, rfl⟩
    · replace h := cF c19 h
      refine AWp.cdF rfl (by first | rfl | simp only [c19, Bool.not_true, Bool.not_false, cond_true, cond_false]) ?_
      refine AWp.skip ?_
      refine nT ?_
      refine AWp.seq ?_
      obtain ⟨v26, hvK27, h⟩ := bindS h
      refine AWp.cutN [4] [] 0 (lb rfl) (fun τ => τ = { env := [(4, (.d (.bool v26)))], heap := [], n := 53 }) ?_ ?_
      · skip
        refine AWp.region ?_
        rcases tf (A.zeq x1 x7) with c20 | c20
        · replace hvK27 := cT c20 hvK27
          obtain ⟨r22, e21, hvK27⟩ := bindS hvK27
          refine AOps.cc hT hA { tk := [52] } (by (repeat (cbv; simp only [c19, c20])); first | done | cbv) (lb rfl) (H68w hA e21) rfl (.inl rfl) rfl rfl rfl (lb rfl) rfl rfl ?_
          rcases tf r22 with c23 | c23
          · replace hvK27 := cT c23 hvK27
            refine AOps.cd hT hA { tk := [52] } (by (repeat (cbv; simp only [c19, c20, c23])); first | done | cbv) (lb rfl) ?_
            cases soI hvK27
            exact oNi ⟨rfl, (by first | (cbv; done) | ((repeat (cbv; simp only [c19, c20, c23])); first | done | cbv))⟩
          · replace hvK27 := cF c23 hvK27
            obtain ⟨r25, e24, hvK27⟩ := bindS hvK27
            refine AOps.cc hT hA { tk := [52] } (by (repeat (cbv; simp only [c19, c20, c23])); first | done | cbv) (lb rfl) (H68w hA e24) rfl (.inl rfl) rfl rfl rfl (lb rfl) rfl rfl ?_
            refine AOps.cd hT hA { tk := [52] } (by (repeat (cbv; simp only [c19, c20, c23])); first | done | cbv) (lb rfl) ?_
            cases soI hvK27
            exact oNi ⟨rfl, (by first | (cbv; done) | ((repeat (cbv; simp only [c19, c20, c23])); first | done | cbv))⟩
        · replace hvK27 := cF c20 hvK27
          refine AOps.cd hT hA { tk := [52] } (by (repeat (cbv; simp only [c19, c20])); first | done | cbv) (lb rfl) ?_
          cases soI hvK27
          exact oNi ⟨rfl, (by first | (cbv; done) | ((repeat (cbv; simp only [c19, c20])); first | done | cbv))⟩
      · rintro _ rfl
        refine nT ?_
        refine AWp.ret ?_
        cases soI h
        exact ⟨rfl, rfl, rfl, lb rfl, _, rfl⟩

theorem H25w {A : Ar} (hA : A = Ar.std) {x1 : List D} {v103 : Bool} (h : H25 A x1 = some v103) : ACall Try.prog 25 [(.d (.list 6 x1))] [] (.d (.bool v103)) [] := by
  unfold H25 at h
  refine ACall.enter hT (fn := Try.f25) Try.func25 rfl (by decide) (by simp [Try.f25]) rfl rfl rfl rfl (lb rfl) ?_
  refine AWp.seq ?_
  refine AWp.rg hT hA {} (by cbv) (lb rfl) ?_
  refine nT ?_
  refine AWp.seq ?_
  refine AWp.seq ?_
  refine AWp.rg hT hA {} (by cbv) (lb rfl) ?_
  refine nT ?_
  rcases tf (A.zlt 8 (A.len x1)) with c2 | c2
  · replace h := cT c2 h
    refine AWp.cdT rfl (by first | rfl | simp only [c2, Bool.not_true, Bool.not_false, cond_true, cond_false]) ?_
    refine AWp.seq ?_
    refine AWp.rg hT hA {} (by (repeat (cbv; simp only [c2])); first | done | cbv) (lb rfl) ?_
    refine nT ?_
    refine AWp.ret ?_
    refine rT ?_
    cases soI h
    exact ⟨rfl, rfl, rfl, lb rfl, _, rfl⟩
  · replace h := cF c2 h
    refine AWp.cdF rfl (by first | rfl | simp only [c2, Bool.not_true, Bool.not_false, cond_true, cond_false]) ?_
    refine AWp.skip ?_
    refine nT ?_
    refine AWp.seq ?_
    refine AWp.seq ?_
    refine AWp.rg hT hA {} (by (repeat (cbv; simp only [c2])); first | done | cbv) (lb rfl) ?_
    refine nT ?_
    refine AWp.block ?_
    obtain ⟨xK102, hxK102, K102, hK102, hkK102⟩ := bindK h
    refine AWp.cutX 0 [] [] 0 (lb rfl) (fun τ => K102 (.inl ()) = some v103 ∧ τ = { env := [], heap := [], n := 80 }) ?_ ?_
    · skip
      refine AWp.iter hxK102 [0, 3] [] 0 (lb rfl) (fun v39 => { env := [(0, (.d (.list 6 x1))), (3, (.d (.int .i64 v39)))], heap := [], n := 80 }) ⟨rfl, (by first | (cbv; done) | ((repeat (cbv; simp only [c2])); first | done | cbv))⟩ ?_
      rintro v39 eK102 hsK102
      dsimp only [H25L1] at hsK102
      refine AWp.seq ?_
      refine AWp.seq ?_
      refine AWp.rg hT hA {} (by cbv) (lb rfl) ?_
      refine nT ?_
      rcases tf (A.zlt v39 (A.len x1)) with c40 | c40
      · replace hsK102 := cT c40 hsK102
        refine AWp.cdT rfl (by first | rfl | simp only [c40, Bool.not_true, Bool.not_false, cond_true, cond_false]) ?_
        refine AWp.skip ?_
        refine nT ?_
        refine AWp.seq ?_
        refine AWp.block ?_
        refine AWp.seq ?_
        obtain ⟨⟨a41, a42, a43, a44, a45, a46⟩, e47, hsK102⟩ := bindS hsK102
        obtain ⟨f48, f49⟩ := gtI e47
        refine AWp.rg hT hA { tk := [18] } (by (repeat (cbv; simp only [c40, f48, f49])); first | done | cbv) (lb rfl) ?_
        refine nT ?_
        refine AWp.seq ?_
        refine AWp.seq ?_
        obtain ⟨v64, hvK65, hsK102⟩ := bindS hsK102
        refine AWp.cutN [0, 3, 4, 46] [] 0 (lb rfl) (fun τ => τ = { env := [(0, (.d (.list 6 x1))), (3, (.d (.int .i64 v39))), (4, (.lbox [(.d (.int .i64 a41)), (.d (.int .i64 a42)), (.d (.int .i64 a43)), (.d (.int .i64 a44)), (.d (.int .i64 a45)), (.d (.int .i64 a46))])), (46, (.d (.bool v64)))], heap := [], n := 80 }) ?_ ?_
        · skip
          refine AWp.region ?_
          obtain ⟨r51, e50, hvK65⟩ := bindS hvK65
          refine AOps.cc hT hA {} (by (repeat (cbv; simp only [c40])); first | done | cbv) (lb rfl) (H67w hA e50) rfl (.inl rfl) rfl rfl rfl (lb rfl) rfl rfl ?_
          rcases tf r51 with c52 | c52
          · replace hvK65 := cT c52 hvK65
            obtain ⟨r54, e53, hvK65⟩ := bindS hvK65
            refine AOps.cc hT hA {} (by (repeat (cbv; simp only [c40, c52])); first | done | cbv) (lb rfl) (H67w hA e53) rfl (.inl rfl) rfl rfl rfl (lb rfl) rfl rfl ?_
            rcases tf r54 with c55 | c55
            · replace hvK65 := cT c55 hvK65
              obtain ⟨r57, e56, hvK65⟩ := bindS hvK65
              refine AOps.cc hT hA {} (by (repeat (cbv; simp only [c40, c52, c55])); first | done | cbv) (lb rfl) (H67w hA e56) rfl (.inl rfl) rfl rfl rfl (lb rfl) rfl rfl ?_
              rcases tf r57 with c58 | c58
              · replace hvK65 := cT c58 hvK65
                obtain ⟨r60, e59, hvK65⟩ := bindS hvK65
                refine AOps.cc hT hA {} (by (repeat (cbv; simp only [c40, c52, c55, c58])); first | done | cbv) (lb rfl) (H67w hA e59) rfl (.inl rfl) rfl rfl rfl (lb rfl) rfl rfl ?_
                rcases tf r60 with c61 | c61
                · replace hvK65 := cT c61 hvK65
                  obtain ⟨r63, e62, hvK65⟩ := bindS hvK65
                  refine AOps.cc hT hA {} (by (repeat (cbv; simp only [c40, c52, c55, c58, c61])); first | done | cbv) (lb rfl) (H67w hA e62) rfl (.inl rfl) rfl rfl rfl (lb rfl) rfl rfl ?_
                  refine AOps.cd hT hA {} (by (repeat (cbv; simp only [c40, c52, c55, c58, c61])); first | done | cbv) (lb rfl) ?_
                  cases soI hvK65
                  exact oNi ⟨rfl, (by first | (cbv; done) | ((repeat (cbv; simp only [c40, c52, c55, c58, c61])); first | done | cbv))⟩
                · replace hvK65 := cF c61 hvK65
                  refine AOps.cd hT hA {} (by (repeat (cbv; simp only [c40, c52, c55, c58, c61])); first | done | cbv) (lb rfl) ?_
                  cases soI hvK65
                  exact oNi ⟨rfl, (by first | (cbv; done) | ((repeat (cbv; simp only [c40, c52, c55, c58, c61])); first | done | cbv))⟩
              · replace hvK65 := cF c58 hvK65
                refine AOps.cd hT hA {} (by (repeat (cbv; simp only [c40, c52, c55, c58])); first | done | cbv) (lb rfl) ?_
                cases soI hvK65
                exact oNi ⟨rfl, (by first | (cbv; done) | ((repeat (cbv; simp only [c40, c52, c55, c58])); first | done | cbv))⟩
            · replace hvK65 := cF c55 hvK65
              refine AOps.cd hT hA {} (by (repeat (cbv; simp only [c40, c52, c55])); first | done | cbv) (lb rfl) ?_
              cases soI hvK65
              exact oNi ⟨rfl, (by first | (cbv; done) | ((repeat (cbv; simp only [c40, c52, c55])); first | done | cbv))⟩
          · replace hvK65 := cF c52 hvK65
            refine AOps.cd hT hA {} (by (repeat (cbv; simp only [c40, c52])); first | done | cbv) (lb rfl) ?_
            cases soI hvK65
            exact oNi ⟨rfl, (by first | (cbv; done) | ((repeat (cbv; simp only [c40, c52])); first | done | cbv))⟩
        · rintro _ rfl
          refine nT ?_
          rcases tf v64 with c66 | c66
          · replace hsK102 := cT c66 hsK102
            refine AWp.cdT rfl (by first | rfl | simp only [c66, Bool.not_true, Bool.not_false, cond_true, cond_false]) ?_
            refine AWp.seq ?_
            refine AWp.rg hT hA {} (by (repeat (cbv; simp only [c66])); first | done | cbv) (lb rfl) ?_
            refine nT ?_
            refine AWp.ret ?_
            refine rT ?_
            refine rB ?_
            refine rT ?_
            refine rT ?_
            refine exL hsK102 fun hx => ?_
            subst hx
            refine oxR ?_
            replace hkK102 := (eR (hK102 _ hkK102))
            refine rB ?_
            refine rT ?_
            cases soI hkK102
            exact ⟨rfl, rfl, rfl, lb rfl, _, rfl⟩
          · replace hsK102 := cF c66 hsK102
            refine AWp.cdF rfl (by first | rfl | simp only [c66, Bool.not_true, Bool.not_false, cond_true, cond_false]) ?_
            refine AWp.skip ?_
            refine nT ?_
            refine AWp.seq ?_
            refine AWp.seq ?_
            obtain ⟨v71, hvK72, hsK102⟩ := bindS hsK102
            refine AWp.cutN [0, 3, 4, 68] [] 0 (lb rfl) (fun τ => τ = { env := [(0, (.d (.list 6 x1))), (3, (.d (.int .i64 v39))), (4, (.lbox [(.d (.int .i64 a41)), (.d (.int .i64 a42)), (.d (.int .i64 a43)), (.d (.int .i64 a44)), (.d (.int .i64 a45)), (.d (.int .i64 a46))])), (68, (.d (.bool v71)))], heap := [], n := 80 }) ?_ ?_
            · skip
              refine AWp.region ?_
              rcases tf (A.zeq a46 0) with c67 | c67
              · replace hvK72 := cT c67 hvK72
                rcases tf (A.zeq a44 0) with c68 | c68
                · replace hvK72 := cT c68 hvK72
                  refine AOps.cd hT hA {} (by (repeat (cbv; simp only [c66, c67, c68])); first | done | cbv) (lb rfl) ?_
                  cases soI hvK72
                  exact oNi ⟨rfl, (by first | (cbv; done) | ((repeat (cbv; simp only [c66, c67, c68])); first | done | cbv))⟩
                · replace hvK72 := cF c68 hvK72
                  refine AOps.cd hT hA {} (by (repeat (cbv; simp only [c66, c67, c68])); first | done | cbv) (lb rfl) ?_
                  cases soI hvK72
                  exact oNi ⟨rfl, (by first | (cbv; done) | ((repeat (cbv; simp only [c66, c67, c68])); first | done | cbv))⟩
              · replace hvK72 := cF c67 hvK72
                obtain ⟨r70, e69, hvK72⟩ := bindS hvK72
                refine AOps.cc hT hA {} (by (repeat (cbv; simp only [c66, c67])); first | done | cbv) (lb rfl) (H67w hA e69) rfl (.inl rfl) rfl rfl rfl (lb rfl) rfl rfl ?_
                refine AOps.cd hT hA {} (by (repeat (cbv; simp only [c66, c67])); first | done | cbv) (lb rfl) ?_
                cases soI hvK72
                exact oNi ⟨rfl, (by first | (cbv; done) | ((repeat (cbv; simp only [c66, c67])); first | done | cbv))⟩
            · rintro _ rfl
              refine nT ?_
              rcases tf v71 with c73 | c73
              · replace hsK102 := cT c73 hsK102
                refine AWp.cdT rfl (by first | rfl | simp only [c73, Bool.not_true, Bool.not_false, cond_true, cond_false]) ?_
                refine AWp.seq ?_
                refine AWp.rg hT hA {} (by (repeat (cbv; simp only [c73])); first | done | cbv) (lb rfl) ?_
                refine nT ?_
                refine AWp.ret ?_
                refine rT ?_
                refine rB ?_
                refine rT ?_
                refine rT ?_
                refine exL hsK102 fun hx => ?_
                subst hx
                refine oxR ?_
                replace hkK102 := (eR (hK102 _ hkK102))
                refine rB ?_
                refine rT ?_
                cases soI hkK102
                exact ⟨rfl, rfl, rfl, lb rfl, _, rfl⟩
              · replace hsK102 := cF c73 hsK102
                refine AWp.cdF rfl (by first | rfl | simp only [c73, Bool.not_true, Bool.not_false, cond_true, cond_false]) ?_
                refine AWp.skip ?_
                refine nT ?_
                refine AWp.seq ?_
                refine AWp.rg hT hA {} (by (repeat (cbv; simp only [c73])); first | done | cbv) (lb rfl) ?_
                refine nT ?_
                refine AWp.block ?_
                obtain ⟨xK101, hxK101, K101, hK101, hkK101⟩ := bindK hsK102
                refine AWp.cutX 2 [0, 3] [] 0 (lb rfl) (fun τ => K101 (.inl ()) = some eK102 ∧ τ = { env := [(0, (.d (.list 6 x1))), (3, (.d (.int .i64 v39)))], heap := [], n := 80 }) ?_ ?_
                · skip
                  refine AWp.iter hxK101 [0, 3, 4, 5] [] 0 (lb rfl) (fun v87 => { env := [(0, (.d (.list 6 x1))), (3, (.d (.int .i64 v39))), (4, (.lbox [(.d (.int .i64 a41)), (.d (.int .i64 a42)), (.d (.int .i64 a43)), (.d (.int .i64 a44)), (.d (.int .i64 a45)), (.d (.int .i64 a46))])), (5, (.d (.int .i64 v87)))], heap := [], n := 80 }) ⟨rfl, (by first | (cbv; done) | ((repeat (cbv; simp only [c73])); first | done | cbv))⟩ ?_
                  rintro v87 eK101 hsK101
                  dsimp only [H25L0] at hsK101
                  refine AWp.seq ?_
                  refine AWp.seq ?_
                  refine AWp.rg hT hA {} (by cbv) (lb rfl) ?_
                  refine nT ?_
                  rcases tf (A.zlt v87 v39) with c88 | c88
                  · replace hsK101 := cT c88 hsK101
                    refine AWp.cdT rfl (by first | rfl | simp only [c88, Bool.not_true, Bool.not_false, cond_true, cond_false]) ?_
                    refine AWp.skip ?_
                    refine nT ?_
                    refine AWp.seq ?_
                    refine AWp.block ?_
                    refine AWp.seq ?_
                    refine AWp.regionDraw rfl (lb rfl) ?_
                    obtain ⟨⟨a89, a90, a91, a92, a93, a94⟩, e95, hsK101⟩ := bindS hsK101
                    obtain ⟨f96, f97⟩ := gtI e95
                    obtain ⟨r99, e98, hsK101⟩ := bindS hsK101
                    refine DOps.c0 hT hA {} rfl (by (repeat (cbv; simp only [c88, f96, f97])); first | done | cbv) (H70w hA e98) rfl rfl (lb rfl) rfl rfl ?_
                    refine DOps.cd hT hA {} rfl (by (repeat (cbv; simp only [c88, f96, f97])); first | done | cbv) (by kernel_rfl) ?_
                    refine nT ?_
                    rcases tf r99 with c100 | c100
                    · replace hsK101 := cT c100 hsK101
                      refine AWp.cdT rfl (by first | rfl | simp only [c88, c100, Bool.not_true, Bool.not_false, cond_true, cond_false]) ?_
                      refine AWp.seq ?_
                      refine AWp.rg hT hA {} (by (repeat (cbv; simp only [c88, c100])); first | done | cbv) (lb rfl) ?_
                      refine nT ?_
                      refine AWp.ret ?_
                      refine rB ?_
                      refine rT ?_
                      refine rT ?_
                      refine exL hsK101 fun hx => ?_
                      subst hx
                      refine oxR ?_
                      replace hkK101 := (eR (hK101 _ hkK101))
                      refine rB ?_
                      refine rB ?_
                      refine rT ?_
                      refine rT ?_
                      refine exL hkK101 fun hx => ?_
                      subst hx
                      refine oxR ?_
                      replace hkK102 := (eR (hK102 _ hkK102))
                      refine rB ?_
                      refine rT ?_
                      cases soI hkK102
                      exact ⟨rfl, rfl, rfl, lb rfl, _, rfl⟩
                    · replace hsK101 := cF c100 hsK101
                      refine AWp.cdF rfl (by first | rfl | simp only [c88, c100, Bool.not_true, Bool.not_false, cond_true, cond_false]) ?_
                      refine AWp.skip ?_
                      refine nB ?_
                      refine nT ?_
                      refine AWp.rg hT hA {} (by (repeat (cbv; simp only [c88, c100])); first | done | cbv) (lb rfl) ?_
                      exact nT ⟨_, (soI hsK101).symm, rfl, (by first | (cbv; done) | ((repeat (cbv; simp only [c88, c100])); first | done | cbv))⟩
                  · replace hsK101 := cF c88 hsK101
                    refine AWp.cdF rfl (by first | rfl | simp only [c88, Bool.not_true, Bool.not_false, cond_true, cond_false]) ?_
                    refine AWp.exit ?_
                    refine xT ?_
                    refine xT ?_
                    refine exL hsK101 fun hx => ?_
                    subst hx
                    exact oxI ⟨rfl, hkK101, (by first | (cbv; done) | ((repeat (cbv; simp only [c88])); first | done | cbv))⟩
                · rintro _ ⟨hkK101, rfl⟩
                  have hsK102 := (eL (hK101 _ hkK101))
                  refine xB ?_
                  refine nB ?_
                  refine nT ?_
                  refine AWp.rg hT hA {} (by cbv) (lb rfl) ?_
                  exact nT ⟨_, (soI hsK102).symm, rfl, (by cbv)⟩
      · replace hsK102 := cF c40 hsK102
        refine AWp.cdF rfl (by first | rfl | simp only [c40, Bool.not_true, Bool.not_false, cond_true, cond_false]) ?_
        refine AWp.exit ?_
        refine xT ?_
        refine xT ?_
        refine exL hsK102 fun hx => ?_
        subst hx
        exact oxI ⟨rfl, hkK102, (by first | (cbv; done) | ((repeat (cbv; simp only [c40])); first | done | cbv))⟩
    · rintro _ ⟨hkK102, rfl⟩
      have h := (eL (hK102 _ hkK102))
      refine xB ?_
      refine nT ?_
      refine AWp.seq ?_
      refine AWp.rg hT hA {} (by cbv) (lb rfl) ?_
      refine nT ?_
      refine AWp.ret ?_
      cases soI h
      exact ⟨rfl, rfl, rfl, lb rfl, _, rfl⟩

theorem H61w {A : Ar} (hA : A = Ar.std) {x1 : List D} {x2 : List D} {v55 : Bool} (h : H61 A x1 x2 = some v55) : ACall Try.prog 61 [(.d (.list 4 x1)), (.d (.list 6 x2))] [] (.d (.bool v55)) [] := by
  unfold H61 at h
  refine ACall.enter hT (fn := Try.f61) Try.func61 rfl (by decide) (by simp [Try.f61]) rfl rfl rfl rfl (lb rfl) ?_
  refine AWp.seq ?_
  refine AWp.rg hT hA {} (by cbv) (lb rfl) ?_
  refine nT ?_
  refine AWp.seq ?_
  refine AWp.seq ?_
  obtain ⟨v8, hvK9, h⟩ := bindS h
  refine AWp.cutN [0, 1, 13] [] 0 (lb rfl) (fun τ => τ = { env := [(0, (.d (.list 4 x1))), (1, (.d (.list 6 x2))), (13, (.d (.bool v8)))], heap := [], n := 45 }) ?_ ?_
  · skip
    refine AWp.region ?_
    obtain ⟨r4, e3, hvK9⟩ := bindS hvK9
    refine AOps.cc hT hA {} (by cbv) (lb rfl) (H60w hA e3) rfl (.inl rfl) rfl rfl rfl (lb rfl) rfl rfl ?_
    rcases tf r4 with c5 | c5
    · replace hvK9 := cT c5 hvK9
      obtain ⟨r7, e6, hvK9⟩ := bindS hvK9
      refine AOps.cc hT hA {} (by (repeat (cbv; simp only [c5])); first | done | cbv) (lb rfl) (H25w hA e6) rfl (.inl rfl) rfl rfl rfl (lb rfl) rfl rfl ?_
      refine AOps.cd hT hA {} (by (repeat (cbv; simp only [c5])); first | done | cbv) (lb rfl) ?_
      cases soI hvK9
      exact oNi ⟨rfl, (by first | (cbv; done) | ((repeat (cbv; simp only [c5])); first | done | cbv))⟩
    · replace hvK9 := cF c5 hvK9
      refine AOps.cd hT hA {} (by (repeat (cbv; simp only [c5])); first | done | cbv) (lb rfl) ?_
      cases soI hvK9
      exact oNi ⟨rfl, (by first | (cbv; done) | ((repeat (cbv; simp only [c5])); first | done | cbv))⟩
  · rintro _ rfl
    refine nT ?_
    rcases tf v8 with c10 | c10
    · replace h := cT c10 h
      refine AWp.cdT rfl (by first | rfl | simp only [c10, Bool.not_true, Bool.not_false, cond_true, cond_false]) ?_
      refine AWp.seq ?_
      refine AWp.rg hT hA {} (by (repeat (cbv; simp only [c10])); first | done | cbv) (lb rfl) ?_
      refine nT ?_
      refine AWp.ret ?_
      refine rT ?_
      cases soI h
      exact ⟨rfl, rfl, rfl, lb rfl, _, rfl⟩
    · replace h := cF c10 h
      refine AWp.cdF rfl (by first | rfl | simp only [c10, Bool.not_true, Bool.not_false, cond_true, cond_false]) ?_
      refine AWp.skip ?_
      refine nT ?_
      refine AWp.seq ?_
      refine AWp.seq ?_
      refine AWp.rg hT hA {} (by (repeat (cbv; simp only [c10])); first | done | cbv) (lb rfl) ?_
      refine nT ?_
      refine AWp.block ?_
      obtain ⟨xK54, hxK54, K54, hK54, hkK54⟩ := bindK h
      refine AWp.cutX 0 [] [] 0 (lb rfl) (fun τ => K54 (.inl ()) = some v55 ∧ τ = { env := [], heap := [], n := 45 }) ?_ ?_
      · skip
        refine AWp.iter hxK54 [0, 1, 5] [] 0 (lb rfl) (fun v32 => { env := [(0, (.d (.list 4 x1))), (1, (.d (.list 6 x2))), (5, (.d (.int .i64 v32)))], heap := [], n := 45 }) ⟨rfl, (by first | (cbv; done) | ((repeat (cbv; simp only [c10])); first | done | cbv))⟩ ?_
        rintro v32 eK54 hsK54
        dsimp only [H61L0] at hsK54
        refine AWp.seq ?_
        refine AWp.seq ?_
        refine AWp.rg hT hA {} (by cbv) (lb rfl) ?_
        refine nT ?_
        rcases tf (A.zlt v32 (A.len x2)) with c33 | c33
        · replace hsK54 := cT c33 hsK54
          refine AWp.cdT rfl (by first | rfl | simp only [c33, Bool.not_true, Bool.not_false, cond_true, cond_false]) ?_
          refine AWp.skip ?_
          refine nT ?_
          refine AWp.seq ?_
          refine AWp.block ?_
          refine AWp.seq ?_
          obtain ⟨v51, hvK52, hsK54⟩ := bindS hsK54
          refine AWp.cutN [0, 1, 5, 44] [] 0 (lb rfl) (fun τ => τ = { env := [(0, (.d (.list 4 x1))), (1, (.d (.list 6 x2))), (5, (.d (.int .i64 v32))), (44, (.d (.bool v51)))], heap := [], n := 45 }) ?_ ?_
          · skip
            obtain ⟨⟨a34, a35, a36, a37, a38, a39⟩, e40, hvK52⟩ := bindS hvK52
            obtain ⟨f41, f42⟩ := gtI e40
            rcases tf (A.zle (A.len x1) a35) with c43 | c43
            · replace hvK52 := cT c43 hvK52
              refine AWp.rd hT hA {} rfl (by (repeat (cbv; simp only [c33, c43, f41, f42])); first | done | cbv) (by kernel_rfl) (lb rfl) ?_
              cases soI hvK52
              exact oNi ⟨rfl, (by first | (cbv; done) | ((repeat (cbv; simp only [c33, c43])); first | done | cbv))⟩
            · replace hvK52 := cF c43 hvK52
              obtain ⟨⟨a44, a45, a46, a47⟩, e48, hvK52⟩ := bindS hvK52
              obtain ⟨f49, f50⟩ := gtI e48
              refine AWp.rd hT hA {} rfl (by (repeat (cbv; simp only [c33, c43, f41, f42, f49, f50])); first | done | cbv) (by kernel_rfl) (lb rfl) ?_
              cases soI hvK52
              exact oNi ⟨rfl, (by first | (cbv; done) | ((repeat (cbv; simp only [c33, c43])); first | done | cbv))⟩
          · rintro _ rfl
            refine nT ?_
            rcases tf v51 with c53 | c53
            · replace hsK54 := cT c53 hsK54
              refine AWp.cdT rfl (by first | rfl | simp only [c53, Bool.not_true, Bool.not_false, cond_true, cond_false]) ?_
              refine AWp.seq ?_
              refine AWp.rg hT hA {} (by (repeat (cbv; simp only [c53])); first | done | cbv) (lb rfl) ?_
              refine nT ?_
              refine AWp.ret ?_
              refine rB ?_
              refine rT ?_
              refine rT ?_
              refine exL hsK54 fun hx => ?_
              subst hx
              refine oxR ?_
              replace hkK54 := (eR (hK54 _ hkK54))
              refine rB ?_
              refine rT ?_
              cases soI hkK54
              exact ⟨rfl, rfl, rfl, lb rfl, _, rfl⟩
            · replace hsK54 := cF c53 hsK54
              refine AWp.cdF rfl (by first | rfl | simp only [c53, Bool.not_true, Bool.not_false, cond_true, cond_false]) ?_
              refine AWp.skip ?_
              refine nB ?_
              refine nT ?_
              refine AWp.rg hT hA {} (by (repeat (cbv; simp only [c53])); first | done | cbv) (lb rfl) ?_
              exact nT ⟨_, (soI hsK54).symm, rfl, (by first | (cbv; done) | ((repeat (cbv; simp only [c53])); first | done | cbv))⟩
        · replace hsK54 := cF c33 hsK54
          refine AWp.cdF rfl (by first | rfl | simp only [c33, Bool.not_true, Bool.not_false, cond_true, cond_false]) ?_
          refine AWp.exit ?_
          refine xT ?_
          refine xT ?_
          refine exL hsK54 fun hx => ?_
          subst hx
          exact oxI ⟨rfl, hkK54, (by first | (cbv; done) | ((repeat (cbv; simp only [c33])); first | done | cbv))⟩
      · rintro _ ⟨hkK54, rfl⟩
        have h := (eL (hK54 _ hkK54))
        refine xB ?_
        refine nT ?_
        refine AWp.seq ?_
        refine AWp.rg hT hA {} (by cbv) (lb rfl) ?_
        refine nT ?_
        refine AWp.ret ?_
        cases soI h
        exact ⟨rfl, rfl, rfl, lb rfl, _, rfl⟩

theorem H21w {A : Ar} (hA : A = Ar.std) {x1 : List D} {x2 : List D} {v8 : Bool} {v9 : Int} (h : H21 A x1 x2 = some (v8, v9)) : ACall Try.prog 21 [(.d (.list 4 x1)), (.d (.list 6 x2))] [] (.tuple [(.d (.bool v8)), (.d (.int .i64 v9))]) [] := by
  unfold H21 at h
  refine ACall.enter hT (fn := Try.f21) Try.func21 rfl (by decide) (by simp [Try.f21]) rfl rfl rfl rfl (lb rfl) ?_
  refine AWp.seq ?_
  refine AWp.rg hT hA {} (by cbv) (lb rfl) ?_
  refine nT ?_
  refine AWp.seq ?_
  refine AWp.seq ?_
  refine AWp.region ?_
  obtain ⟨r4, e3, h⟩ := bindS h
  refine AOps.cc hT hA {} (by cbv) (lb rfl) (H60w hA e3) rfl (.inl rfl) rfl rfl rfl (lb rfl) rfl rfl ?_
  refine AOps.cd hT hA {} (by cbv) (lb rfl) ?_
  refine nT ?_
  rcases tf r4 with c5 | c5
  · replace h := cT c5 h
    refine AWp.cdF rfl (by first | rfl | simp only [c5, Bool.not_true, Bool.not_false, cond_true, cond_false]) ?_
    refine AWp.skip ?_
    refine nT ?_
    refine AWp.seq ?_
    refine AWp.region ?_
    obtain ⟨r7, e6, h⟩ := bindS h
    refine AOps.cc hT hA {} (by (repeat (cbv; simp only [c5])); first | done | cbv) (lb rfl) (H61w hA e6) rfl (.inl rfl) rfl rfl rfl (lb rfl) rfl rfl ?_
    refine AOps.cd hT hA {} (by (repeat (cbv; simp only [c5])); first | done | cbv) (lb rfl) ?_
    refine nT ?_
    refine AWp.ret ?_
    cases soI h
    exact ⟨rfl, rfl, rfl, lb rfl, _, rfl⟩
  · replace h := cF c5 h
    refine AWp.cdT rfl (by first | rfl | simp only [c5, Bool.not_true, Bool.not_false, cond_true, cond_false]) ?_
    refine AWp.seq ?_
    refine AWp.rg hT hA {} (by (repeat (cbv; simp only [c5])); first | done | cbv) (lb rfl) ?_
    refine nT ?_
    refine AWp.ret ?_
    refine rT ?_
    cases soI h
    exact ⟨rfl, rfl, rfl, lb rfl, _, rfl⟩

theorem H64w {A : Ar} (hA : A = Ar.std) {x1 : List D} {x2 : Int} {v5 : Bool} (h : H64 A x1 x2 = some v5) : ACall Try.prog 64 [(.d (.list 6 x1)), (.d (.int .i64 x2))] [] (.d (.bool v5)) [] := by
  unfold H64 at h
  refine ACall.enter hT (fn := Try.f64) Try.func64 rfl (by decide) (by simp [Try.f64]) rfl rfl rfl rfl (lb rfl) ?_
  refine AWp.seq ?_
  refine AWp.rg hT hA {} (by cbv) (lb rfl) ?_
  refine nT ?_
  refine AWp.seq ?_
  refine AWp.region ?_
  obtain ⟨r4, e3, h⟩ := bindS h
  refine AOps.cc hT hA { tk := [9] } (by cbv) (lb rfl) (H77w hA e3) rfl (.inl rfl) rfl rfl rfl (lb rfl) rfl rfl ?_
  refine AOps.cd hT hA { tk := [9] } (by cbv) (lb rfl) ?_
  refine nT ?_
  refine AWp.ret ?_
  cases soI h
  exact ⟨rfl, rfl, rfl, lb rfl, _, rfl⟩

theorem H30w {A : Ar} (hA : A = Ar.std) {x1 : List D} {x2 : List D} {v12 : Int} {v13 : Int} (h : H30 A x1 x2 = some (v12, v13)) : ACall Try.prog 30 [(.d (.list 4 x1)), (.d (.list 6 x2))] [] (.tuple [(.d (.int .i64 v12)), (.d (.int .i64 v13))]) [] := by
  unfold H30 at h
  refine ACall.enter hT (fn := Try.f30) Try.func30 rfl (by decide) (by simp [Try.f30]) rfl rfl rfl rfl (lb rfl) ?_
  refine AWp.seq ?_
  refine AWp.rg hT hA {} (by cbv) (lb rfl) ?_
  refine nT ?_
  refine AWp.seq ?_
  refine AWp.seq ?_
  refine AWp.region ?_
  obtain ⟨r4, e3, h⟩ := bindS h
  refine AOps.cc hT hA {} (by cbv) (lb rfl) (H71w hA e3) rfl (.inl rfl) rfl rfl rfl (lb rfl) rfl rfl ?_
  refine AOps.cd hT hA {} (by cbv) (lb rfl) ?_
  refine nT ?_
  refine AWp.seq ?_
  refine AWp.rg hT hA {} (by cbv) (lb rfl) ?_
  refine nT ?_
  rcases tf (A.zeq r4 0) with c5 | c5
  · replace h := cT c5 h
    refine AWp.cdF rfl (by first | rfl | simp only [c5, Bool.not_true, Bool.not_false, cond_true, cond_false]) ?_
    refine AWp.skip ?_
    refine nT ?_
    refine AWp.seq ?_
    refine AWp.region ?_
    obtain ⟨⟨r7, r8⟩, e6, h⟩ := bindS h
    refine AOps.cc hT hA {} (by (repeat (cbv; simp only [c5])); first | done | cbv) (lb rfl) (H72w hA e6) rfl (.inl rfl) rfl rfl rfl (lb rfl) rfl rfl ?_
    obtain ⟨⟨r10, r11⟩, e9, h⟩ := bindS h
    refine AOps.cc hT hA {} (by (repeat (cbv; simp only [c5])); first | done | cbv) (lb rfl) (H74w hA e9) rfl (.inl rfl) rfl rfl rfl (lb rfl) rfl rfl ?_
    refine AOps.cd hT hA {} (by (repeat (cbv; simp only [c5])); first | done | cbv) (lb rfl) ?_
    refine nT ?_
    refine AWp.ret ?_
    cases soI h
    exact ⟨rfl, rfl, rfl, lb rfl, _, rfl⟩
  · replace h := cF c5 h
    refine AWp.cdT rfl (by first | rfl | simp only [c5, Bool.not_true, Bool.not_false, cond_true, cond_false]) ?_
    refine AWp.seq ?_
    refine AWp.rg hT hA {} (by (repeat (cbv; simp only [c5])); first | done | cbv) (lb rfl) ?_
    refine nT ?_
    refine AWp.ret ?_
    refine rT ?_
    cases soI h
    exact ⟨rfl, rfl, rfl, lb rfl, _, rfl⟩

theorem H26w {A : Ar} (hA : A = Ar.std) {x1 : List D} {x2 : List D} {v6 : Bool} {v7 : Int} (h : H26 A x1 x2 = some (v6, v7)) : ACall Try.prog 26 [(.d (.list 4 x1)), (.d (.list 6 x2))] [] (.tuple [(.d (.bool v6)), (.d (.int .i64 v7))]) [] := by
  unfold H26 at h
  refine ACall.enter hT (fn := Try.f26) Try.func26 rfl (by decide) (by simp [Try.f26]) rfl rfl rfl rfl (lb rfl) ?_
  refine AWp.seq ?_
  refine AWp.rg hT hA {} (by cbv) (lb rfl) ?_
  refine nT ?_
  refine AWp.seq ?_
  refine AWp.region ?_
  obtain ⟨⟨r4, r5⟩, e3, h⟩ := bindS h
  refine AOps.cc hT hA {} (by cbv) (lb rfl) (H30w hA e3) rfl (.inl rfl) rfl rfl rfl (lb rfl) rfl rfl ?_
  refine AOps.cd hT hA {} (by cbv) (lb rfl) ?_
  refine nT ?_
  refine AWp.seq ?_
  refine AWp.rg hT hA {} (by cbv) (lb rfl) ?_
  refine nT ?_
  refine AWp.ret ?_
  cases soI h
  exact ⟨rfl, rfl, rfl, lb rfl, _, rfl⟩

theorem H75w {A : Ar} (hA : A = Ar.std) {x1 : List D} {x2 : List D} {v9 : Int} (h : H75 A x1 x2 = some v9) : ACall Try.prog 75 [(.d (.list 4 x1)), (.d (.list 6 x2))] [] (.d (.int .i64 v9)) [] := by
  unfold H75 at h
  refine ACall.enter hT (fn := Try.f75) Try.func75 rfl (by decide) (by simp [Try.f75]) rfl rfl rfl rfl (lb rfl) ?_
  refine AWp.seq ?_
  refine AWp.rg hT hA {} (by cbv) (lb rfl) ?_
  refine nT ?_
  refine AWp.seq ?_
  refine AWp.seq ?_
  refine AWp.region ?_
  obtain ⟨r4, e3, h⟩ := bindS h
  refine AOps.cc hT hA {} (by cbv) (lb rfl) (H60w hA e3) rfl (.inl rfl) rfl rfl rfl (lb rfl) rfl rfl ?_
  refine AOps.cd hT hA {} (by cbv) (lb rfl) ?_
  refine nT ?_
  rcases tf r4 with c5 | c5
  · replace h := cT c5 h
    refine AWp.cdF rfl (by first | rfl | simp only [c5, Bool.not_true, Bool.not_false, cond_true, cond_false]) ?_
    refine AWp.skip ?_
    refine nT ?_
    refine AWp.seq ?_
    refine AWp.seq ?_
    refine AWp.region ?_
    obtain ⟨r7, e6, h⟩ := bindS h
    refine AOps.cc hT hA {} (by (repeat (cbv; simp only [c5])); first | done | cbv) (lb rfl) (H61w hA e6) rfl (.inl rfl) rfl rfl rfl (lb rfl) rfl rfl ?_
    refine AOps.cd hT hA {} (by (repeat (cbv; simp only [c5])); first | done | cbv) (lb rfl) ?_
    refine nT ?_
    rcases tf r7 with c8 | c8
    · replace h := cT c8 h
      refine AWp.cdF rfl (by first | rfl | simp only [c5, c8, Bool.not_true, Bool.not_false, cond_true, cond_false]) ?_
      refine AWp.skip ?_
      refine nT ?_
      refine AWp.seq ?_
      refine AWp.rg hT hA {} (by (repeat (cbv; simp only [c5, c8])); first | done | cbv) (lb rfl) ?_
      refine nT ?_
      refine AWp.ret ?_
      cases soI h
      exact ⟨rfl, rfl, rfl, lb rfl, _, rfl⟩
    · replace h := cF c8 h
      refine AWp.cdT rfl (by first | rfl | simp only [c5, c8, Bool.not_true, Bool.not_false, cond_true, cond_false]) ?_
      refine AWp.seq ?_
      refine AWp.rg hT hA {} (by (repeat (cbv; simp only [c5, c8])); first | done | cbv) (lb rfl) ?_
      refine nT ?_
      refine AWp.ret ?_
      refine rT ?_
      cases soI h
      exact ⟨rfl, rfl, rfl, lb rfl, _, rfl⟩
  · replace h := cF c5 h
    refine AWp.cdT rfl (by first | rfl | simp only [c5, Bool.not_true, Bool.not_false, cond_true, cond_false]) ?_
    refine AWp.seq ?_
    refine AWp.rg hT hA {} (by (repeat (cbv; simp only [c5])); first | done | cbv) (lb rfl) ?_
    refine nT ?_
    refine AWp.ret ?_
    refine rT ?_
    cases soI h
    exact ⟨rfl, rfl, rfl, lb rfl, _, rfl⟩

theorem H93aw {A : Ar} (hA : A = Ar.std) {x1 : List D} {x2 : List D} {v115 : Bool} (h : H93a A x1 x2 = some v115) : ACall Try.prog 93 [(.d (.list 6 x1)), (.d (.list 1 x2))] [] (.d (.bool v115)) [] := by
  unfold H93a at h
  refine ACall.enter hT (fn := Try.f93) Try.func93 rfl (by decide) (by simp [Try.f93]) rfl rfl rfl rfl (lb rfl) ?_
  refine AWp.seq ?_
  refine AWp.rg hT hA {} (by cbv) (lb rfl) ?_
  refine nT ?_
  refine AWp.seq ?_
  refine AWp.seq ?_
  refine AWp.rg hT hA {} (by cbv) (lb rfl) ?_
  refine nT ?_
  rcases tf (A.zlt (A.len x1) (A.len x2)) with c3 | c3
  · replace h := cT c3 h
    refine AWp.cdT rfl (by first | rfl | simp only [c3, Bool.not_true, Bool.not_false, cond_true, cond_false]) ?_
    refine AWp.seq ?_
    refine AWp.rg hT hA {} (by (repeat (cbv; simp only [c3])); first | done | cbv) (lb rfl) ?_
    refine nT ?_
    refine AWp.ret ?_
    refine rT ?_
    cases soI h
    exact ⟨rfl, rfl, rfl, lb rfl, _, rfl⟩
  · replace h := cF c3 h
    refine AWp.cdF rfl (by first | rfl | simp only [c3, Bool.not_true, Bool.not_false, cond_true, cond_false]) ?_
    refine AWp.skip ?_
    refine nT ?_
    refine AWp.seq ?_
    obtain ⟨_, e7, h⟩ := bindS h
    have f4 := ckI e7
    obtain ⟨_, e8, h⟩ := bindS h
    have f5 := ckI e8
    obtain ⟨_, e9, h⟩ := bindS h
    have f6 := ckI e9
    refine AWp.rg hT hA {} (by (repeat (cbv; simp only [c3, f4, f5, f6])); first | done | cbv) (lb rfl) ?_
    refine nT ?_
    refine AWp.seq ?_
    refine AWp.seq ?_
    refine AWp.rg hT hA {} (by (repeat (cbv; simp only [c3])); first | done | cbv) (lb rfl) ?_
    refine nT ?_
    refine AWp.block ?_
    obtain ⟨xK70, hxK70, K70, hK70, hkK70⟩ := bindK h
    refine AWp.cutX 0 [0, 5] [] 1 (lb rfl) (fun τ => ∃ v68, K70 (.inl v68) = some v115 ∧ τ = { env := [(0, (.d (.list 6 x1))), (5, (.mref 0 1 0 (A.len x1)))], heap := [(.arr 1 v68)], n := 65 }) ?_ ?_
    · skip
      refine AWp.iter hxK70 [0, 1, 5, 6] [] 1 (lb rfl) (fun (v38, v39) => { env := [(0, (.d (.list 6 x1))), (1, (.d (.list 1 x2))), (5, (.mref 0 1 0 (A.len x1))), (6, (.d (.int .i64 v38)))], heap := [(.arr 1 v39)], n := 65 }) ⟨rfl, (by first | (cbv; done) | ((repeat (cbv; simp only [c3])); first | done | cbv))⟩ ?_
      rintro ⟨v38, v39⟩ eK70 hsK70
      dsimp only [H93aL0] at hsK70
      refine AWp.seq ?_
      refine AWp.seq ?_
      refine AWp.rg hT hA {} (by cbv) (lb rfl) ?_
      refine nT ?_
      rcases tf (A.zlt v38 (A.len x2)) with c40 | c40
      · replace hsK70 := cT c40 hsK70
        refine AWp.cdT rfl (by first | rfl | simp only [c40, Bool.not_true, Bool.not_false, cond_true, cond_false]) ?_
        refine AWp.skip ?_
        refine nT ?_
        refine AWp.seq ?_
        refine AWp.block ?_
        refine AWp.seq ?_
        refine AWp.seq ?_
        obtain ⟨v55, hvK56, hsK70⟩ := bindS hsK70
        refine AWp.cutN [0, 1, 5, 6, 39] [] 1 (lb rfl) (fun τ => τ = { env := [(0, (.d (.list 6 x1))), (1, (.d (.list 1 x2))), (5, (.mref 0 1 0 (A.len x1))), (6, (.d (.int .i64 v38))), (39, (.d (.bool v55)))], heap := [(.arr 1 v39)], n := 65 }) ?_ ?_
        · skip
          refine AWp.region ?_
          obtain ⟨a41, e42, hvK56⟩ := bindS hvK56
          obtain ⟨f43, f44⟩ := gtI e42
          obtain ⟨r46, e45, hvK56⟩ := bindS hvK56
          refine AOps.cc hT hA {} (by (repeat (cbv; simp only [c40, f43, f44])); first | done | cbv) (lb rfl) (H67w hA e45) rfl (.inr rfl) rfl rfl rfl (lb rfl) rfl rfl ?_
          rcases tf r46 with c47 | c47
          · replace hvK56 := cT c47 hvK56
            obtain ⟨_, e48, hvK56⟩ := bindS hvK56
            have f50 := ckI e48
            obtain ⟨_, e49, hvK56⟩ := bindS hvK56
            have f51 := ckI e49
            obtain ⟨a52, e53, hvK56⟩ := bindS hvK56
            have f54 := gcI e53
            refine AOps.cd hT hA {} (by (repeat (cbv; simp only [c40, c47, f43, f44, f50, f51, f54])); first | done | cbv) (lb rfl) ?_
            cases soI hvK56
            exact oNi ⟨rfl, (by first | (cbv; done) | ((repeat (cbv; simp only [c40, c47])); first | done | cbv))⟩
          · replace hvK56 := cF c47 hvK56
            refine AOps.cd hT hA {} (by (repeat (cbv; simp only [c40, c47, f43, f44])); first | done | cbv) (lb rfl) ?_
            cases soI hvK56
            exact oNi ⟨rfl, (by first | (cbv; done) | ((repeat (cbv; simp only [c40, c47])); first | done | cbv))⟩
        · rintro _ rfl
          refine nT ?_
          rcases tf v55 with c57 | c57
          · replace hsK70 := cT c57 hsK70
            refine AWp.cdT rfl (by first | rfl | simp only [c57, Bool.not_true, Bool.not_false, cond_true, cond_false]) ?_
            refine AWp.seq ?_
            refine AWp.rg hT hA {} (by (repeat (cbv; simp only [c57])); first | done | cbv) (lb rfl) ?_
            refine nT ?_
            refine AWp.ret ?_
            refine rT ?_
            refine rB ?_
            refine rT ?_
            refine rT ?_
            refine exL hsK70 fun hx => ?_
            subst hx
            refine oxR ?_
            replace hkK70 := (eR (hK70 _ hkK70))
            refine rB ?_
            refine rT ?_
            cases soI hkK70
            exact ⟨rfl, rfl, rfl, lb rfl, _, rfl⟩
          · replace hsK70 := cF c57 hsK70
            refine AWp.cdF rfl (by first | rfl | simp only [c57, Bool.not_true, Bool.not_false, cond_true, cond_false]) ?_
            refine AWp.skip ?_
            refine nT ?_
            obtain ⟨a58, e59, hsK70⟩ := bindS hsK70
            obtain ⟨f60, f61⟩ := gtI e59
            obtain ⟨_, e62, hsK70⟩ := bindS hsK70
            have f64 := ckI e62
            obtain ⟨_, e63, hsK70⟩ := bindS hsK70
            have f65 := ckI e63
            obtain ⟨d66, e67, hsK70⟩ := bindS hsK70
            refine AWp.rg hT hA {} (by (repeat (cbv; simp only [c57, f60, f61, f64, f65, e67])); first | done | cbv) (lb rfl) ?_
            refine nB ?_
            refine nT ?_
            refine AWp.rg hT hA {} (by (repeat (cbv; simp only [c57])); first | done | cbv) (lb rfl) ?_
            exact nT ⟨_, (soI hsK70).symm, rfl, (by first | (cbv; done) | ((repeat (cbv; simp only [c57])); first | done | cbv))⟩
      · replace hsK70 := cF c40 hsK70
        refine AWp.cdF rfl (by first | rfl | simp only [c40, Bool.not_true, Bool.not_false, cond_true, cond_false]) ?_
        refine AWp.exit ?_
        refine xT ?_
        refine xT ?_
        refine exL hsK70 fun hx => ?_
        subst hx
        exact oxI ⟨rfl, _, hkK70, (by first | (cbv; done) | ((repeat (cbv; simp only [c40])); first | done | cbv))⟩
    · rintro _ ⟨v68, hkK70, rfl⟩
      have h := (eL (hK70 _ hkK70))
      refine xB ?_
      refine nT ?_
      refine AWp.seq ?_
      refine AWp.seq ?_
      refine AWp.rg hT hA {} (by cbv) (lb rfl) ?_
      refine nT ?_
      refine AWp.block ?_
      obtain ⟨xK114, hxK114, K114, hK114, hkK114⟩ := bindK h
      refine AWp.cutX 2 [] [] 1 (lb rfl) (fun τ => K114 (.inl ()) = some v115 ∧ τ = { env := [], heap := [(.arr 1 v68)], n := 65 }) ?_ ?_
      · skip
        refine AWp.iter hxK114 [0, 5, 7] [] 1 (lb rfl) (fun v92 => { env := [(0, (.d (.list 6 x1))), (5, (.mref 0 1 0 (A.len x1))), (7, (.d (.int .i64 v92)))], heap := [(.arr 1 v68)], n := 65 }) ⟨rfl, (by cbv)⟩ ?_
        rintro v92 eK114 hsK114
        dsimp only [H93aL1] at hsK114
        refine AWp.seq ?_
        refine AWp.seq ?_
        refine AWp.rg hT hA {} (by cbv) (lb rfl) ?_
        refine nT ?_
        rcases tf (A.zlt v92 (A.len x1)) with c93 | c93
        · replace hsK114 := cT c93 hsK114
          refine AWp.cdT rfl (by first | rfl | simp only [c93, Bool.not_true, Bool.not_false, cond_true, cond_false]) ?_
          refine AWp.skip ?_
          refine nT ?_
          refine AWp.seq ?_
          refine AWp.block ?_
          refine AWp.seq ?_
          obtain ⟨v111, hvK112, hsK114⟩ := bindS hsK114
          refine AWp.cutN [0, 5, 7, 64] [] 1 (lb rfl) (fun τ => τ = { env := [(0, (.d (.list 6 x1))), (5, (.mref 0 1 0 (A.len x1))), (7, (.d (.int .i64 v92))), (64, (.d (.bool v111)))], heap := [(.arr 1 v68)], n := 65 }) ?_ ?_
          · skip
            obtain ⟨⟨a94, a95, a96, a97, a98, a99⟩, e100, hvK112⟩ := bindS hvK112
            obtain ⟨f101, f102⟩ := gtI e100
            rcases tf (A.zeq a99 0) with c103 | c103
            · replace hvK112 := cT c103 hvK112
              refine AWp.rg hT hA {} (by (repeat (cbv; simp only [c93, c103, f101, f102])); first | done | cbv) (lb rfl) ?_
              cases soI hvK112
              exact oNi ⟨rfl, (by first | (cbv; done) | ((repeat (cbv; simp only [c93, c103])); first | done | cbv))⟩
            · replace hvK112 := cF c103 hvK112
              obtain ⟨_, e104, hvK112⟩ := bindS hvK112
              have f106 := ckI e104
              obtain ⟨_, e105, hvK112⟩ := bindS hvK112
              have f107 := ckI e105
              obtain ⟨a108, e109, hvK112⟩ := bindS hvK112
              have f110 := gcI e109
              refine AWp.rg hT hA {} (by (repeat (cbv; simp only [c93, c103, f101, f102, f106, f107, f110])); first | done | cbv) (lb rfl) ?_
              cases soI hvK112
              exact oNi ⟨rfl, (by first | (cbv; done) | ((repeat (cbv; simp only [c93, c103])); first | done | cbv))⟩
          · rintro _ rfl
            refine nT ?_
            rcases tf v111 with c113 | c113
            · replace hsK114 := cT c113 hsK114
              refine AWp.cdT rfl (by first | rfl | simp only [c113, Bool.not_true, Bool.not_false, cond_true, cond_false]) ?_
              refine AWp.seq ?_
              refine AWp.rg hT hA {} (by (repeat (cbv; simp only [c113])); first | done | cbv) (lb rfl) ?_
              refine nT ?_
              refine AWp.ret ?_
              refine rB ?_
              refine rT ?_
              refine rT ?_
              refine exL hsK114 fun hx => ?_
              subst hx
              refine oxR ?_
              replace hkK114 := (eR (hK114 _ hkK114))
              refine rB ?_
              refine rT ?_
              cases soI hkK114
              exact ⟨rfl, rfl, rfl, lb rfl, _, rfl⟩
            · replace hsK114 := cF c113 hsK114
              refine AWp.cdF rfl (by first | rfl | simp only [c113, Bool.not_true, Bool.not_false, cond_true, cond_false]) ?_
              refine AWp.skip ?_
              refine nB ?_
              refine nT ?_
              refine AWp.rg hT hA {} (by (repeat (cbv; simp only [c113])); first | done | cbv) (lb rfl) ?_
              exact nT ⟨_, (soI hsK114).symm, rfl, (by first | (cbv; done) | ((repeat (cbv; simp only [c113])); first | done | cbv))⟩
        · replace hsK114 := cF c93 hsK114
          refine AWp.cdF rfl (by first | rfl | simp only [c93, Bool.not_true, Bool.not_false, cond_true, cond_false]) ?_
          refine AWp.exit ?_
          refine xT ?_
          refine xT ?_
          refine exL hsK114 fun hx => ?_
          subst hx
          exact oxI ⟨rfl, hkK114, (by first | (cbv; done) | ((repeat (cbv; simp only [c93])); first | done | cbv))⟩
      · rintro _ ⟨hkK114, rfl⟩
        have h := (eL (hK114 _ hkK114))
        refine xB ?_
        refine nT ?_
        refine AWp.seq ?_
        refine AWp.rg hT hA {} (by cbv) (lb rfl) ?_
        refine nT ?_
        refine AWp.ret ?_
        cases soI h
        exact ⟨rfl, rfl, rfl, lb rfl, _, rfl⟩
end Go.Am
