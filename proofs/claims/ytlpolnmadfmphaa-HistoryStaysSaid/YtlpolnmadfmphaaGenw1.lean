/- Own text: Genw1. -/
import Derived.Test.YtlpolnmadfmphaaGenw0
set_option maxRecDepth 100000
set_option maxHeartbeats 2000000
set_option linter.unusedVariables false
set_option linter.unusedSimpArgs false
namespace Go.Am
open Go Go.Proofs
theorem H24aw {A : Ar} (hA : A = Ar.std) {x1 : Int} {x2 : Int} {x3 : List D} {v212 : Bool} (h : H24a A x1 x2 x3 = some v212) : ACall Try.prog 24 [(.mref 0 6 x1 x2)] [(.arr 6 x3)] (.d (.bool v212)) [(.arr 6 x3)] := by
  unfold H24a at h
  refine ACall.enter hT (fn := Try.f24) Try.func24 rfl (by decide) (by simp [Try.f24]) rfl rfl rfl rfl (lb rfl) ?_
  refine AWp.seq ?_
  refine AWp.rg hT hA {} (by cbv) (lb rfl) ?_
  refine nT ?_
  refine AWp.seq ?_
  refine AWp.seq ?_
  refine AWp.rg hT hA {} (by cbv) (lb rfl) ?_
  refine nT ?_
  rcases tf (A.zlt 8 x2) with c4 | c4
  · replace h := cT c4 h
    refine AWp.cdT rfl (by first | rfl | simp only [c4, Bool.not_true, Bool.not_false, cond_true, cond_false]) ?_
    refine AWp.seq ?_
    refine AWp.rg hT hA {} (by (repeat (cbv; simp only [c4])); first | done | cbv) (lb rfl) ?_
    refine nT ?_
    refine AWp.ret ?_
    refine rT ?_
    cases soI h
    exact ⟨rfl, rfl, rfl, lb rfl, _, rfl⟩
  · replace h := cF c4 h
    refine AWp.cdF rfl (by first | rfl | simp only [c4, Bool.not_true, Bool.not_false, cond_true, cond_false]) ?_
    refine AWp.skip ?_
    refine nT ?_
    refine AWp.seq ?_
    refine AWp.rg hT hA { arr := [3] } (by (repeat (cbv; simp only [c4])); first | done | cbv) (lb rfl) ?_
    refine nT ?_
    refine AWp.seq ?_
    refine AWp.seq ?_
    refine AWp.rg hT hA {} (by (repeat (cbv; simp only [c4])); first | done | cbv) (lb rfl) ?_
    refine nT ?_
    refine AWp.block ?_
    obtain ⟨xK211, hxK211, K211, hK211, hkK211⟩ := bindK h
    refine AWp.cutX 0 [] [] 2 (lb rfl) (fun τ => ∃ v209, K211 (.inl v209) = some v212 ∧ τ = { env := [], heap := [(.arr 6 x3), (.arr 1 v209)], n := 67 }) ?_ ?_
    · skip
      refine AWp.iter hxK211 [0, 3, 11, 12, 13] [] 2 (lb rfl) (fun (v106, v107) => { env := [(0, (.mref 0 6 x1 x2)), (3, (.ptr 1 0)), (11, (.mref 0 6 x1 x2)), (12, (.d (.int .i64 x2))), (13, (.d (.int .i64 v106)))], heap := [(.arr 6 x3), (.arr 1 v107)], n := 67 }) ⟨rfl, (by first | (cbv; done) | ((repeat (cbv; simp only [c4])); first | done | cbv))⟩ ?_
      rintro ⟨v106, v107⟩ eK211 hsK211
      dsimp only [H24aL1] at hsK211
      refine AWp.seq ?_
      refine AWp.rg hT hA {} (by cbv) (lb rfl) ?_
      refine nT ?_
      refine AWp.seq ?_
      rcases tf (A.zlt v106 x2) with c108 | c108
      · replace hsK211 := cT c108 hsK211
        refine AWp.cdT rfl (by first | rfl | simp only [c108, Bool.not_true, Bool.not_false, cond_true, cond_false]) ?_
        refine AWp.skip ?_
        refine nT ?_
        refine AWp.seq ?_
        refine AWp.block ?_
        refine AWp.seq ?_
        obtain ⟨_, e109, hsK211⟩ := bindS hsK211
        have f111 := ckI e109
        obtain ⟨_, e110, hsK211⟩ := bindS hsK211
        have f112 := ckI e110
        obtain ⟨⟨a113, a114, a115, a116, a117, a118⟩, e119, hsK211⟩ := bindS hsK211
        have f120 := gcI e119
        refine AWp.rg hT hA { tk := [17] } (by (repeat (cbv; simp only [c108, f111, f112, f120])); first | done | cbv) (lb rfl) ?_
        refine nT ?_
        refine AWp.seq ?_
        refine AWp.seq ?_
        obtain ⟨v131, hvK132, hsK211⟩ := bindS hsK211
        refine AWp.cutN [0, 3, 4, 5, 11, 12, 13, 26] [] 2 (lb rfl) (fun τ => τ = { env := [(0, (.mref 0 6 x1 x2)), (3, (.ptr 1 0)), (4, (.d (.int .i64 v106))), (5, (.lbox [(.d (.int .i64 a113)), (.d (.int .i64 a114)), (.d (.int .i64 a115)), (.d (.int .i64 a116)), (.d (.int .i64 a117)), (.d (.int .i64 a118))])), (11, (.mref 0 6 x1 x2)), (12, (.d (.int .i64 x2))), (13, (.d (.int .i64 v106))), (26, (.d (.bool v131)))], heap := [(.arr 6 x3), (.arr 1 v107)], n := 67 }) ?_ ?_
        · skip
          refine AWp.region ?_
          obtain ⟨r122, e121, hvK132⟩ := bindS hvK132
          refine AOps.cc hT hA {} (by (repeat (cbv; simp only [c108])); first | done | cbv) (lb rfl) (H69w hA e121) rfl (.inr rfl) rfl rfl rfl (lb rfl) rfl rfl ?_
          rcases tf r122 with c123 | c123
          · replace hvK132 := cT c123 hvK132
            obtain ⟨_, e124, hvK132⟩ := bindS hvK132
            have f126 := ckI e124
            obtain ⟨_, e125, hvK132⟩ := bindS hvK132
            have f127 := ckI e125
            obtain ⟨a128, e129, hvK132⟩ := bindS hvK132
            have f130 := gcI e129
            refine AOps.cd hT hA {} (by (repeat (cbv; simp only [c108, c123, f126, f127, f130])); first | done | cbv) (lb rfl) ?_
            cases soI hvK132
            exact oNi ⟨rfl, (by first | (cbv; done) | ((repeat (cbv; simp only [c108, c123])); first | done | cbv))⟩
          · replace hvK132 := cF c123 hvK132
            refine AOps.cd hT hA {} (by (repeat (cbv; simp only [c108, c123])); first | done | cbv) (lb rfl) ?_
            cases soI hvK132
            exact oNi ⟨rfl, (by first | (cbv; done) | ((repeat (cbv; simp only [c108, c123])); first | done | cbv))⟩
        · rintro _ rfl
          refine nT ?_
          rcases tf v131 with c133 | c133
          · replace hsK211 := cT c133 hsK211
            refine AWp.cdT rfl (by first | rfl | simp only [c133, Bool.not_true, Bool.not_false, cond_true, cond_false]) ?_
            refine AWp.seq ?_
            refine AWp.rg hT hA {} (by (repeat (cbv; simp only [c133])); first | done | cbv) (lb rfl) ?_
            refine nT ?_
            refine AWp.ret ?_
            refine rT ?_
            refine rB ?_
            refine rT ?_
            refine rT ?_
            refine exL hsK211 fun hx => ?_
            subst hx
            refine oxR ?_
            replace hkK211 := (eR (hK211 _ hkK211))
            refine rB ?_
            refine rT ?_
            cases soI hkK211
            exact ⟨rfl, rfl, rfl, lb rfl, _, rfl⟩
          · replace hsK211 := cF c133 hsK211
            refine AWp.cdF rfl (by first | rfl | simp only [c133, Bool.not_true, Bool.not_false, cond_true, cond_false]) ?_
            refine AWp.skip ?_
            refine nT ?_
            refine AWp.seq ?_
            obtain ⟨_, e134, hsK211⟩ := bindS hsK211
            have f136 := ckI e134
            obtain ⟨_, e135, hsK211⟩ := bindS hsK211
            have f137 := ckI e135
            obtain ⟨d138, e139, hsK211⟩ := bindS hsK211
            refine AWp.rg hT hA {} (by (repeat (cbv; simp only [c133, f136, f137, e139])); first | done | cbv) (lb rfl) ?_
            refine nT ?_
            refine AWp.seq ?_
            refine AWp.seq ?_
            refine AWp.rg hT hA {} (by (repeat (cbv; simp only [c133])); first | done | cbv) (lb rfl) ?_
            refine nT ?_
            obtain ⟨K156, hK156, hsK211⟩ := jnI hsK211
            refine AWp.cutN [0, 3, 4, 5, 11, 12, 13] [] 2 (lb rfl) (fun τ => ∃ v155, K156 v155 = some eK211 ∧ τ = { env := [(0, (.mref 0 6 x1 x2)), (3, (.ptr 1 0)), (4, (.d (.int .i64 v106))), (5, (.lbox [(.d (.int .i64 a113)), (.d (.int .i64 a114)), (.d (.int .i64 a115)), (.d (.int .i64 a116)), (.d (.int .i64 a117)), (.d (.int .i64 a118))])), (11, (.mref 0 6 x1 x2)), (12, (.d (.int .i64 x2))), (13, (.d (.int .i64 v106)))], heap := [(.arr 6 x3), (.arr 1 v155)], n := 67 }) ?_ ?_
            · skip
              rcases tf (A.zlt 0 a118) with c140 | c140
              · replace hsK211 := cT c140 hsK211
                refine AWp.cdT rfl (by first | rfl | simp only [c133, c140, Bool.not_true, Bool.not_false, cond_true, cond_false]) ?_
                refine AWp.seq ?_
                refine AWp.seq ?_
                obtain ⟨_, e141, hsK211⟩ := bindS hsK211
                have f143 := ckI e141
                obtain ⟨_, e142, hsK211⟩ := bindS hsK211
                have f144 := ckI e142
                obtain ⟨a145, e146, hsK211⟩ := bindS hsK211
                have f147 := gcI e146
                refine AWp.rg hT hA {} (by (repeat (cbv; simp only [c133, c140, f143, f144, f147])); first | done | cbv) (lb rfl) ?_
                refine nT ?_
                rcases tf a145 with c148 | c148
                · replace hsK211 := cT c148 hsK211
                  refine AWp.cdT rfl (by first | rfl | simp only [c133, c140, c148, Bool.not_true, Bool.not_false, cond_true, cond_false]) ?_
                  refine AWp.seq ?_
                  refine AWp.rg hT hA {} (by (repeat (cbv; simp only [c133, c140, c148])); first | done | cbv) (lb rfl) ?_
                  refine nT ?_
                  refine AWp.ret ?_
                  refine rT ?_
                  refine oNr ?_
                  refine rT ?_
                  refine rB ?_
                  refine rT ?_
                  refine rT ?_
                  refine exL hsK211 fun hx => ?_
                  subst hx
                  refine oxR ?_
                  replace hkK211 := (eR (hK211 _ hkK211))
                  refine rB ?_
                  refine rT ?_
                  cases soI hkK211
                  exact ⟨rfl, rfl, rfl, lb rfl, _, rfl⟩
                · replace hsK211 := cF c148 hsK211
                  refine AWp.cdF rfl (by first | rfl | simp only [c133, c140, c148, Bool.not_true, Bool.not_false, cond_true, cond_false]) ?_
                  refine AWp.skip ?_
                  refine nT ?_
                  obtain ⟨_, e149, hsK211⟩ := bindS hsK211
                  have f151 := ckI e149
                  obtain ⟨_, e150, hsK211⟩ := bindS hsK211
                  have f152 := ckI e150
                  obtain ⟨d153, e154, hsK211⟩ := bindS hsK211
                  refine AWp.rg hT hA {} (by (repeat (cbv; simp only [c133, c140, c148, f151, f152, e154])); first | done | cbv) (lb rfl) ?_
                  exact oNi ⟨rfl, _, hsK211, (by first | (cbv; done) | ((repeat (cbv; simp only [c133, c140, c148])); first | done | cbv))⟩
              · replace hsK211 := cF c140 hsK211
                refine AWp.cdF rfl (by first | rfl | simp only [c133, c140, Bool.not_true, Bool.not_false, cond_true, cond_false]) ?_
                refine AWp.skip ?_
                exact oNi ⟨rfl, _, hsK211, (by first | (cbv; done) | ((repeat (cbv; simp only [c133, c140])); first | done | cbv))⟩
            · rintro _ ⟨v155, hsK211, rfl⟩
              replace hsK211 := hK156 _ hsK211
              refine nT ?_
              refine AWp.seq ?_
              obtain ⟨_, e157, hsK211⟩ := bindS hsK211
              have f160 := ckI e157
              obtain ⟨_, e158, hsK211⟩ := bindS hsK211
              have f161 := ckI e158
              obtain ⟨_, e159, hsK211⟩ := bindS hsK211
              have f162 := ckI e159
              refine AWp.rg hT hA {} (by (repeat (cbv; simp only [f160, f161, f162])); first | done | cbv) (lb rfl) ?_
              refine nT ?_
              refine AWp.block ?_
              obtain ⟨xK208, hxK208, K208, hK208, hkK208⟩ := bindK hsK211
              refine AWp.cutX 2 [0, 3, 11, 12, 13] [] 2 (lb rfl) (fun τ => K208 (.inl ()) = some eK211 ∧ τ = { env := [(0, (.mref 0 6 x1 x2)), (3, (.ptr 1 0)), (11, (.mref 0 6 x1 x2)), (12, (.d (.int .i64 x2))), (13, (.d (.int .i64 v106)))], heap := [(.arr 6 x3), (.arr 1 v155)], n := 67 }) ?_ ?_
              · skip
                refine AWp.iter hxK208 [0, 3, 5, 11, 12, 13, 42, 43, 44] [] 2 (lb rfl) (fun v185 => { env := [(0, (.mref 0 6 x1 x2)), (3, (.ptr 1 0)), (5, (.lbox [(.d (.int .i64 a113)), (.d (.int .i64 a114)), (.d (.int .i64 a115)), (.d (.int .i64 a116)), (.d (.int .i64 a117)), (.d (.int .i64 a118))])), (11, (.mref 0 6 x1 x2)), (12, (.d (.int .i64 x2))), (13, (.d (.int .i64 v106))), (42, (.mref 0 6 (A.zadd x1 0) (A.zsub v106 0))), (43, (.d (.int .i64 (A.zsub v106 0)))), (44, (.d (.int .i64 v185)))], heap := [(.arr 6 x3), (.arr 1 v155)], n := 67 }) ⟨rfl, (by cbv)⟩ ?_
                rintro v185 eK208 hsK208
                dsimp only [H24aL0] at hsK208
                refine AWp.seq ?_
                refine AWp.rg hT hA {} (by cbv) (lb rfl) ?_
                refine nT ?_
                refine AWp.seq ?_
                rcases tf (A.zlt v185 (A.zsub v106 0)) with c186 | c186
                · replace hsK208 := cT c186 hsK208
                  refine AWp.cdT rfl (by first | rfl | simp only [c186, Bool.not_true, Bool.not_false, cond_true, cond_false]) ?_
                  refine AWp.skip ?_
                  refine nT ?_
                  refine AWp.seq ?_
                  refine AWp.block ?_
                  refine AWp.seq ?_
                  obtain ⟨_, e187, hsK208⟩ := bindS hsK208
                  have f189 := ckI e187
                  obtain ⟨_, e188, hsK208⟩ := bindS hsK208
                  have f190 := ckI e188
                  obtain ⟨⟨a191, a192, a193, a194, a195, a196⟩, e197, hsK208⟩ := bindS hsK208
                  have f198 := gcI e197
                  refine AWp.rg hT hA { tk := [47] } (by (repeat (cbv; simp only [c186, f189, f190, f198])); first | done | cbv) (lb rfl) ?_
                  refine nT ?_
                  refine AWp.seq ?_
                  obtain ⟨v205, hvK206, hsK208⟩ := bindS hsK208
                  refine AWp.cutN [0, 3, 5, 11, 12, 13, 42, 43, 44, 64] [] 2 (lb rfl) (fun τ => τ = { env := [(0, (.mref 0 6 x1 x2)), (3, (.ptr 1 0)), (5, (.lbox [(.d (.int .i64 a113)), (.d (.int .i64 a114)), (.d (.int .i64 a115)), (.d (.int .i64 a116)), (.d (.int .i64 a117)), (.d (.int .i64 a118))])), (11, (.mref 0 6 x1 x2)), (12, (.d (.int .i64 x2))), (13, (.d (.int .i64 v106))), (42, (.mref 0 6 (A.zadd x1 0) (A.zsub v106 0))), (43, (.d (.int .i64 (A.zsub v106 0)))), (44, (.d (.int .i64 v185))), (64, (.d (.bool v205)))], heap := [(.arr 6 x3), (.arr 1 v155)], n := 67 }) ?_ ?_
                  · skip
                    refine AWp.region ?_
                    rcases tf (A.zeq a113 a191) with c199 | c199
                    · replace hvK206 := cT c199 hvK206
                      obtain ⟨r201, e200, hvK206⟩ := bindS hvK206
                      refine AOps.cc hT hA {} (by (repeat (cbv; simp only [c186, c199])); first | done | cbv) (lb rfl) (H66w hA e200) rfl (.inr rfl) rfl rfl rfl (lb rfl) rfl rfl ?_
                      rcases tf r201 with c202 | c202
                      · replace hvK206 := cT c202 hvK206
                        refine AOps.cd hT hA {} (by (repeat (cbv; simp only [c186, c199, c202])); first | done | cbv) (lb rfl) ?_
                        cases soI hvK206
                        exact oNi ⟨rfl, (by first | (cbv; done) | ((repeat (cbv; simp only [c186, c199, c202])); first | done | cbv))⟩
                      · replace hvK206 := cF c202 hvK206
                        obtain ⟨r204, e203, hvK206⟩ := bindS hvK206
                        refine AOps.cc hT hA {} (by (repeat (cbv; simp only [c186, c199, c202])); first | done | cbv) (lb rfl) (H66w hA e203) rfl (.inr rfl) rfl rfl rfl (lb rfl) rfl rfl ?_
                        refine AOps.cd hT hA {} (by (repeat (cbv; simp only [c186, c199, c202])); first | done | cbv) (lb rfl) ?_
                        cases soI hvK206
                        exact oNi ⟨rfl, (by first | (cbv; done) | ((repeat (cbv; simp only [c186, c199, c202])); first | done | cbv))⟩
                    · replace hvK206 := cF c199 hvK206
                      refine AOps.cd hT hA {} (by (repeat (cbv; simp only [c186, c199])); first | done | cbv) (lb rfl) ?_
                      cases soI hvK206
                      exact oNi ⟨rfl, (by first | (cbv; done) | ((repeat (cbv; simp only [c186, c199])); first | done | cbv))⟩
                  · rintro _ rfl
                    refine nT ?_
                    rcases tf v205 with c207 | c207
                    · replace hsK208 := cT c207 hsK208
                      refine AWp.cdT rfl (by first | rfl | simp only [c207, Bool.not_true, Bool.not_false, cond_true, cond_false]) ?_
                      refine AWp.seq ?_
                      refine AWp.rg hT hA {} (by (repeat (cbv; simp only [c207])); first | done | cbv) (lb rfl) ?_
                      refine nT ?_
                      refine AWp.ret ?_
                      refine rB ?_
                      refine rT ?_
                      refine rT ?_
                      refine exL hsK208 fun hx => ?_
                      subst hx
                      refine oxR ?_
                      replace hkK208 := (eR (hK208 _ hkK208))
                      refine rB ?_
                      refine rB ?_
                      refine rT ?_
                      refine rT ?_
                      refine exL hkK208 fun hx => ?_
                      subst hx
                      refine oxR ?_
                      replace hkK211 := (eR (hK211 _ hkK211))
                      refine rB ?_
                      refine rT ?_
                      cases soI hkK211
                      exact ⟨rfl, rfl, rfl, lb rfl, _, rfl⟩
                    · replace hsK208 := cF c207 hsK208
                      refine AWp.cdF rfl (by first | rfl | simp only [c207, Bool.not_true, Bool.not_false, cond_true, cond_false]) ?_
                      refine AWp.skip ?_
                      refine nB ?_
                      refine nT ?_
                      refine AWp.rg hT hA {} (by (repeat (cbv; simp only [c207])); first | done | cbv) (lb rfl) ?_
                      exact nT ⟨_, (soI hsK208).symm, rfl, (by first | (cbv; done) | ((repeat (cbv; simp only [c207])); first | done | cbv))⟩
                · replace hsK208 := cF c186 hsK208
                  refine AWp.cdF rfl (by first | rfl | simp only [c186, Bool.not_true, Bool.not_false, cond_true, cond_false]) ?_
                  refine AWp.exit ?_
                  refine xT ?_
                  refine xT ?_
                  refine exL hsK208 fun hx => ?_
                  subst hx
                  exact oxI ⟨rfl, hkK208, (by first | (cbv; done) | ((repeat (cbv; simp only [c186])); first | done | cbv))⟩
              · rintro _ ⟨hkK208, rfl⟩
                have hsK211 := (eL (hK208 _ hkK208))
                refine xB ?_
                refine nB ?_
                refine nT ?_
                refine AWp.rg hT hA {} (by cbv) (lb rfl) ?_
                exact nT ⟨_, (soI hsK211).symm, rfl, (by cbv)⟩
      · replace hsK211 := cF c108 hsK211
        refine AWp.cdF rfl (by first | rfl | simp only [c108, Bool.not_true, Bool.not_false, cond_true, cond_false]) ?_
        refine AWp.exit ?_
        refine xT ?_
        refine xT ?_
        refine exL hsK211 fun hx => ?_
        subst hx
        exact oxI ⟨rfl, _, hkK211, (by first | (cbv; done) | ((repeat (cbv; simp only [c108])); first | done | cbv))⟩
    · rintro _ ⟨v209, hkK211, rfl⟩
      have h := (eL (hK211 _ hkK211))
      refine xB ?_
      refine nT ?_
      refine AWp.seq ?_
      refine AWp.rg hT hA {} (by cbv) (lb rfl) ?_
      refine nT ?_
      refine AWp.ret ?_
      cases soI h
      exact ⟨rfl, rfl, rfl, lb rfl, _, rfl⟩

theorem H91w {A : Ar} (hA : A = Ar.std) {x1 : List D} {x2 : Int} {x3 : Int} {x4 : Int} {x5 : List D} {x6 : Int} {x7 : Int} {v51 : Bool} {v52 : List D} (h : H91 A x1 x2 x3 x4 x5 x6 x7 = some (v51, v52)) : ACall Try.prog 91 [(.iptr [(.list 6 x1)]), (.iptr [(.int .i64 x2)]), (.iptr [(.int .i64 x3)]), (.iptr [(.int .i64 x4)]), (.ptr 1 0)] [(.arr 6 x5), (.cells [(.mref 0 6 x6 x7)])] (.d (.bool v51)) [(.arr 6 v52), (.cells [(.mref 0 6 x6 x7)])] := by
  unfold H91 at h
  refine ACall.enter hT (fn := Try.f91) Try.func91 rfl (by decide) (by simp [Try.f91]) rfl rfl rfl rfl (lb rfl) ?_
  refine AWp.seq ?_
  refine AWp.rg hT hA {} (by cbv) (lb rfl) ?_
  refine nT ?_
  refine AWp.seq ?_
  refine AWp.seq ?_
  obtain ⟨v22, hvK23, h⟩ := bindS h
  refine AWp.cutN [1, 2, 3, 4, 35] [] 2 (lb rfl) (fun τ => τ = { env := [(1, (.iptr [(.int .i64 x2)])), (2, (.iptr [(.int .i64 x3)])), (3, (.iptr [(.int .i64 x4)])), (4, (.ptr 1 0)), (35, (.d (.bool v22)))], heap := [(.arr 6 x5), (.cells [(.mref 0 6 x6 x7)])], n := 48 }) ?_ ?_
  · skip
    refine AWp.regionDraw rfl (lb rfl) ?_
    obtain ⟨r9, e8, hvK23⟩ := bindS hvK23
    refine DOps.c0 hT hA {} rfl (by cbv) (H64w hA e8) rfl rfl (lb rfl) rfl rfl ?_
    rcases tf r9 with c10 | c10
    · replace hvK23 := cT c10 hvK23
      obtain ⟨⟨a11, a12, a13, a14, a15, a16⟩, e17, hvK23⟩ := bindS hvK23
      obtain ⟨f18, f19⟩ := gtI e17
      rcases tf (A.zeq a16 0) with c20 | c20
      · replace hvK23 := cT c20 hvK23
        refine DOps.cd hT hA {} rfl (by (repeat (cbv; simp only [c10, c20, f18, f19])); first | done | cbv) (by kernel_rfl) ?_
        cases soI hvK23
        exact oNi ⟨rfl, (by first | (cbv; done) | ((repeat (cbv; simp only [c10, c20])); first | done | cbv))⟩
      · replace hvK23 := cF c20 hvK23
        rcases tf (A.zlt a15 x3) with c21 | c21
        · replace hvK23 := cT c21 hvK23
          refine DOps.cd hT hA {} rfl (by (repeat (cbv; simp only [c10, c20, c21, f18, f19])); first | done | cbv) (by kernel_rfl) ?_
          cases soI hvK23
          exact oNi ⟨rfl, (by first | (cbv; done) | ((repeat (cbv; simp only [c10, c20, c21])); first | done | cbv))⟩
        · replace hvK23 := cF c21 hvK23
          refine DOps.cd hT hA {} rfl (by (repeat (cbv; simp only [c10, c20, c21, f18, f19])); first | done | cbv) (by kernel_rfl) ?_
          cases soI hvK23
          exact oNi ⟨rfl, (by first | (cbv; done) | ((repeat (cbv; simp only [c10, c20, c21])); first | done | cbv))⟩
    · replace hvK23 := cF c10 hvK23
      refine DOps.cd hT hA {} rfl (by (repeat (cbv; simp only [c10])); first | done | cbv) (by kernel_rfl) ?_
      cases soI hvK23
      exact oNi ⟨rfl, (by first | (cbv; done) | ((repeat (cbv; simp only [c10])); first | done | cbv))⟩
  · rintro _ rfl
    refine nT ?_
    rcases tf v22 with c24 | c24
    · replace h := cT c24 h
      refine AWp.cdT rfl (by first | rfl | simp only [c24, Bool.not_true, Bool.not_false, cond_true, cond_false]) ?_
      refine AWp.seq ?_
      refine AWp.rg hT hA {} (by (repeat (cbv; simp only [c24])); first | done | cbv) (lb rfl) ?_
      refine nT ?_
      refine AWp.ret ?_
      refine rT ?_
      cases soI h
      exact ⟨rfl, rfl, rfl, lb rfl, _, rfl⟩
    · replace h := cF c24 h
      refine AWp.cdF rfl (by first | rfl | simp only [c24, Bool.not_true, Bool.not_false, cond_true, cond_false]) ?_
      refine AWp.skip ?_
      refine nT ?_
      refine AWp.seq ?_
      obtain ⟨_, e25, h⟩ := bindS h
      have f27 := ckI e25
      obtain ⟨_, e26, h⟩ := bindS h
      have f28 := ckI e26
      obtain ⟨⟨a29, a30, a31, a32, a33, a34⟩, e35, h⟩ := bindS h
      have f36 := gcI e35
      obtain ⟨_, e37, h⟩ := bindS h
      have f39 := ckI e37
      obtain ⟨_, e38, h⟩ := bindS h
      have f40 := ckI e38
      obtain ⟨⟨a41, a42, a43, a44, a45, a46⟩, e47, h⟩ := bindS h
      have f48 := gcI e47
      refine AWp.rd hT hA {} rfl (by (repeat (cbv; simp only [c24, f27, f28, f36, f39, f40, f48])); first | done | cbv) (by kernel_rfl) (lb rfl) ?_
      refine nT ?_
      refine AWp.seq ?_
      refine AWp.region ?_
      obtain ⟨r50, e49, h⟩ := bindS h
      refine AOps.cc hT hA { tk := [47] } (by (repeat (cbv; simp only [c24])); first | done | cbv) (lb rfl) (H24aw hA e49) rfl (.inr rfl) rfl rfl rfl (lb rfl) rfl rfl ?_
      refine AOps.cd hT hA { tk := [47] } (by (repeat (cbv; simp only [c24])); first | done | cbv) (lb rfl) ?_
      refine nT ?_
      refine AWp.ret ?_
      cases soI h
      exact ⟨rfl, rfl, rfl, lb rfl, _, rfl⟩

theorem H62bw {A : Ar} (hA : A = Ar.std) {x1 : List D} {x2 : List D} {x3 : Int} {x4 : Int} {x5 : Int} {x6 : List D} {x7 : Int} {x8 : Int} {v17 : Bool} {v18 : Int} {v19 : List D} (h : H62b A x1 x2 x3 x4 x5 x6 x7 x8 = some (v17, v18, v19)) : ACall Try.prog 62 [(.d (.list 6 x1)), (.func 91 [] [(.iptr [(.list 6 x2)]), (.iptr [(.int .i64 x3)]), (.iptr [(.int .i64 x4)]), (.iptr [(.int .i64 x5)]), (.ptr 1 0)]), (.func 80 [] [])] [(.arr 6 x6), (.cells [(.mref 0 6 x7 x8)])] (.tuple [(.d (.bool v17)), (.d (.int .i64 v18))]) [(.arr 6 v19), (.cells [(.mref 0 6 x7 x8)])] := by
  unfold H62b at h
  refine ACall.enter hT (fn := Try.f62) Try.func62 rfl (by decide) (by simp [Try.f62]) rfl rfl rfl rfl (lb rfl) ?_
  refine AWp.seq ?_
  refine AWp.rg hT hA {} (by cbv) (lb rfl) ?_
  refine nT ?_
  refine AWp.seq ?_
  refine AWp.rg hT hA {} (by cbv) (lb rfl) ?_
  refine nT ?_
  refine AWp.seq ?_
  refine AWp.block ?_
  refine AWp.seq ?_
  refine AWp.region ?_
  obtain ⟨r10, e9, h⟩ := bindS h
  refine AOps.cc hT hA {} (by cbv) (lb rfl) (H24w hA e9) rfl (.inr rfl) rfl rfl rfl (lb rfl) rfl rfl ?_
  refine AOps.cd hT hA {} (by cbv) (lb rfl) ?_
  refine nT ?_
  rcases tf r10 with c11 | c11
  · replace h := cT c11 h
    refine AWp.cdF rfl (by first | rfl | simp only [c11, Bool.not_true, Bool.not_false, cond_true, cond_false]) ?_
    refine AWp.seq ?_
    refine AWp.region ?_
    obtain ⟨⟨r13, r14⟩, e12, h⟩ := bindS h
    refine AOps.cc hT hA {} (by (repeat (cbv; simp only [c11])); first | done | cbv) (lb rfl) (H91w hA e12) rfl (.inl rfl) rfl rfl rfl (lb rfl) rfl rfl ?_
    refine AOps.cd hT hA {} (by (repeat (cbv; simp only [c11])); first | done | cbv) (lb rfl) ?_
    refine nT ?_
    rcases tf r13 with c15 | c15
    · replace h := cT c15 h
      refine AWp.cdF rfl (by first | rfl | simp only [c11, c15, Bool.not_true, Bool.not_false, cond_true, cond_false]) ?_
      refine AWp.skip ?_
      refine nB ?_
      refine nT ?_
      refine AWp.seq ?_
      refine AWp.region ?_
      obtain ⟨_, e16, h⟩ := bindS h
      refine AOps.cc hT hA {} (by (repeat (cbv; simp only [c11, c15])); first | done | cbv) (lb rfl) (H80w hA e16) rfl (.inr rfl) rfl rfl rfl (lb rfl) rfl rfl ?_
      refine AOps.cd hT hA {} (by (repeat (cbv; simp only [c11, c15])); first | done | cbv) (lb rfl) ?_
      refine nT ?_
      refine AWp.ret ?_
      cases soI h
      exact ⟨rfl, rfl, rfl, lb rfl, _, rfl⟩
    · replace h := cF c15 h
      refine AWp.cdT rfl (by first | rfl | simp only [c11, c15, Bool.not_true, Bool.not_false, cond_true, cond_false]) ?_
      refine AWp.seq ?_
      refine AWp.rg hT hA {} (by (repeat (cbv; simp only [c11, c15])); first | done | cbv) (lb rfl) ?_
      refine nT ?_
      refine AWp.ret ?_
      refine rB ?_
      refine rT ?_
      cases soI h
      exact ⟨rfl, rfl, rfl, lb rfl, _, rfl⟩
  · replace h := cF c11 h
    refine AWp.cdT rfl (by first | rfl | simp only [c11, Bool.not_true, Bool.not_false, cond_true, cond_false]) ?_
    refine AWp.seq ?_
    refine AWp.rg hT hA {} (by (repeat (cbv; simp only [c11])); first | done | cbv) (lb rfl) ?_
    refine nT ?_
    refine AWp.ret ?_
    refine rB ?_
    refine rT ?_
    cases soI h
    exact ⟨rfl, rfl, rfl, lb rfl, _, rfl⟩

theorem H91aw {A : Ar} (hA : A = Ar.std) {x1 : List D} {x2 : Int} {x3 : Int} {x4 : Int} {x5 : List D} (h : H91a A x1 x2 x3 x4 x5 = some ()) : ACall Try.prog 91 [(.iptr [(.list 6 x1)]), (.iptr [(.int .i64 x2)]), (.iptr [(.int .i64 x3)]), (.iptr [(.int .i64 x4)]), (.ptr 0 0)] [(.cells [(.own 6 x5)])] (.d (.bool false)) [(.cells [(.own 6 x5)])] := by
  unfold H91a at h
  refine ACall.enter hT (fn := Try.f91) Try.func91 rfl (by decide) (by simp [Try.f91]) rfl rfl rfl rfl (lb rfl) ?_
  refine AWp.seq ?_
  refine AWp.rg hT hA {} (by cbv) (lb rfl) ?_
  refine nT ?_
  refine AWp.seq ?_
  refine AWp.seq ?_
  obtain ⟨v20, hvK21, h⟩ := bindS h
  refine AWp.cutN [1, 2, 3, 4, 35] [] 1 (lb rfl) (fun τ => τ = { env := [(1, (.iptr [(.int .i64 x2)])), (2, (.iptr [(.int .i64 x3)])), (3, (.iptr [(.int .i64 x4)])), (4, (.ptr 0 0)), (35, (.d (.bool v20)))], heap := [(.cells [(.own 6 x5)])], n := 48 }) ?_ ?_
  · skip
    refine AWp.regionDraw rfl (lb rfl) ?_
    obtain ⟨r7, e6, hvK21⟩ := bindS hvK21
    refine DOps.c0 hT hA {} rfl (by cbv) (H64w hA e6) rfl rfl (lb rfl) rfl rfl ?_
    rcases tf r7 with c8 | c8
    · replace hvK21 := cT c8 hvK21
      obtain ⟨⟨a9, a10, a11, a12, a13, a14⟩, e15, hvK21⟩ := bindS hvK21
      obtain ⟨f16, f17⟩ := gtI e15
      rcases tf (A.zeq a14 0) with c18 | c18
      · replace hvK21 := cT c18 hvK21
        refine DOps.cd hT hA {} rfl (by (repeat (cbv; simp only [c8, c18, f16, f17])); first | done | cbv) (by kernel_rfl) ?_
        cases soI hvK21
        exact oNi ⟨rfl, (by first | (cbv; done) | ((repeat (cbv; simp only [c8, c18])); first | done | cbv))⟩
      · replace hvK21 := cF c18 hvK21
        rcases tf (A.zlt a13 x3) with c19 | c19
        · replace hvK21 := cT c19 hvK21
          refine DOps.cd hT hA {} rfl (by (repeat (cbv; simp only [c8, c18, c19, f16, f17])); first | done | cbv) (by kernel_rfl) ?_
          cases soI hvK21
          exact oNi ⟨rfl, (by first | (cbv; done) | ((repeat (cbv; simp only [c8, c18, c19])); first | done | cbv))⟩
        · replace hvK21 := cF c19 hvK21
          refine DOps.cd hT hA {} rfl (by (repeat (cbv; simp only [c8, c18, c19, f16, f17])); first | done | cbv) (by kernel_rfl) ?_
          cases soI hvK21
          exact oNi ⟨rfl, (by first | (cbv; done) | ((repeat (cbv; simp only [c8, c18, c19])); first | done | cbv))⟩
    · replace hvK21 := cF c8 hvK21
      refine DOps.cd hT hA {} rfl (by (repeat (cbv; simp only [c8])); first | done | cbv) (by kernel_rfl) ?_
      cases soI hvK21
      exact oNi ⟨rfl, (by first | (cbv; done) | ((repeat (cbv; simp only [c8])); first | done | cbv))⟩
  · rintro _ rfl
    refine nT ?_
    rcases tf v20 with c22 | c22
    · replace h := cT c22 h
      refine AWp.cdT rfl (by first | rfl | simp only [c22, Bool.not_true, Bool.not_false, cond_true, cond_false]) ?_
      refine AWp.seq ?_
      refine AWp.rg hT hA {} (by (repeat (cbv; simp only [c22])); first | done | cbv) (lb rfl) ?_
      refine nT ?_
      refine AWp.ret ?_
      refine rT ?_
      cases soI h
      exact ⟨rfl, rfl, rfl, lb rfl, _, rfl⟩
    · replace h := cF c22 h
      refine AWp.cdF rfl (by first | rfl | simp only [c22, Bool.not_true, Bool.not_false, cond_true, cond_false]) ?_
      refine AWp.skip ?_
      refine nT ?_
      refine AWp.seq ?_
      obtain ⟨⟨a23, a24, a25, a26, a27, a28⟩, e29, h⟩ := bindS h
      obtain ⟨f30, f31⟩ := gtI e29
      cases h

theorem H62cw {A : Ar} (hA : A = Ar.std) {x1 : List D} {x2 : List D} {x3 : Int} {x4 : Int} {x5 : Int} {x6 : List D} {v11 : Int} (h : H62c A x1 x2 x3 x4 x5 x6 = some v11) : ACall Try.prog 62 [(.d (.list 6 x1)), (.func 91 [] [(.iptr [(.list 6 x2)]), (.iptr [(.int .i64 x3)]), (.iptr [(.int .i64 x4)]), (.iptr [(.int .i64 x5)]), (.ptr 0 0)]), (.func 80 [] [])] [(.cells [(.own 6 x6)])] (.tuple [(.d (.bool false)), (.d (.int .i64 v11))]) [(.cells [(.own 6 x6)])] := by
  unfold H62c at h
  refine ACall.enter hT (fn := Try.f62) Try.func62 rfl (by decide) (by simp [Try.f62]) rfl rfl rfl rfl (lb rfl) ?_
  refine AWp.seq ?_
  refine AWp.rg hT hA {} (by cbv) (lb rfl) ?_
  refine nT ?_
  refine AWp.seq ?_
  refine AWp.rg hT hA {} (by cbv) (lb rfl) ?_
  refine nT ?_
  refine AWp.seq ?_
  refine AWp.block ?_
  refine AWp.seq ?_
  refine AWp.region ?_
  obtain ⟨r8, e7, h⟩ := bindS h
  refine AOps.cc hT hA {} (by cbv) (lb rfl) (H24w hA e7) rfl (.inr rfl) rfl rfl rfl (lb rfl) rfl rfl ?_
  refine AOps.cd hT hA {} (by cbv) (lb rfl) ?_
  refine nT ?_
  rcases tf r8 with c9 | c9
  · replace h := cT c9 h
    refine AWp.cdF rfl (by first | rfl | simp only [c9, Bool.not_true, Bool.not_false, cond_true, cond_false]) ?_
    refine AWp.seq ?_
    refine AWp.region ?_
    obtain ⟨_, e10, h⟩ := bindS h
    refine AOps.cc hT hA {} (by (repeat (cbv; simp only [c9])); first | done | cbv) (lb rfl) (H91aw hA e10) rfl (.inl rfl) rfl rfl rfl (lb rfl) rfl rfl ?_
    refine AOps.cd hT hA {} (by (repeat (cbv; simp only [c9])); first | done | cbv) (lb rfl) ?_
    refine nT ?_
    refine AWp.cdT rfl (by first | rfl | simp only [c9, Bool.not_true, Bool.not_false, cond_true, cond_false]) ?_
    refine AWp.seq ?_
    refine AWp.rg hT hA {} (by (repeat (cbv; simp only [c9])); first | done | cbv) (lb rfl) ?_
    refine nT ?_
    refine AWp.ret ?_
    refine rB ?_
    refine rT ?_
    cases soI h
    exact ⟨rfl, rfl, rfl, lb rfl, _, rfl⟩
  · replace h := cF c9 h
    refine AWp.cdT rfl (by first | rfl | simp only [c9, Bool.not_true, Bool.not_false, cond_true, cond_false]) ?_
    refine AWp.seq ?_
    refine AWp.rg hT hA {} (by (repeat (cbv; simp only [c9])); first | done | cbv) (lb rfl) ?_
    refine nT ?_
    refine AWp.ret ?_
    refine rB ?_
    refine rT ?_
    cases soI h
    exact ⟨rfl, rfl, rfl, lb rfl, _, rfl⟩

theorem H41w {A : Ar} (hA : A = Ar.std) {x1 : List D} {x2 : Int} {x3 : Int} {x4 : Int} {v21 : List D} {v22 : Int} (h : H41 A x1 x2 x3 x4 = some (v21, v22)) : ACall Try.prog 41 [(.d (.list 6 x1)), (.d (.int .i64 x2)), (.d (.int .i64 x3)), (.d (.int .i64 x4))] [] (.tuple [(.d (.list 6 v21)), (.d (.int .i64 v22))]) [] := by
  unfold H41 at h
  refine ACall.enter hT (fn := Try.f41) Try.func41 rfl (by decide) (by simp [Try.f41]) rfl rfl rfl rfl (lb rfl) ?_
  refine AWp.seq ?_
  refine AWp.rg hT hA {} (by cbv) (lb rfl) ?_
  refine nT ?_
  refine AWp.freezeBox 4 [(.list 6 x1)] rfl rfl ?_
  refine AWp.freezeBox 5 [(.int .i64 x2)] rfl rfl ?_
  refine AWp.freezeBox 6 [(.int .i64 x3)] rfl rfl ?_
  refine AWp.freezeBox 7 [(.int .i64 x4)] rfl rfl ?_
  refine AWp.seq ?_
  refine AWp.region ?_
  obtain ⟨r6, e5, h⟩ := bindS h
  rcases tf (A.zlt 0 (A.len r6)) with c7 | c7
  · replace h := cT c7 h
    obtain ⟨_, e8, h⟩ := bindS h
    refine AOps.cc hT hA { tk := [14], esc := [10] } (by cbv) (lb rfl) (ACall.thaw (H90w hA e5) rfl rfl (neL hA c7) (ckI e8) (H := []) rfl (lenL hA)) rfl (.inl rfl) rfl rfl rfl (lb rfl) rfl rfl ?_
    refine AOps.cd hT hA { tk := [14], esc := [10] } (by (repeat (cbv; simp only [c7])); first | done | cbv) (lb rfl) ?_
    refine nT ?_
    refine AWp.seq ?_
    refine AWp.region ?_
    obtain ⟨⟨r10, r11, r12⟩, e9, h⟩ := bindS h
    refine AOps.cc hT hA {} (by (repeat (cbv; simp only [c7])); first | done | cbv) (lb rfl) (H62bw hA e9) rfl (.inl rfl) rfl rfl rfl (lb rfl) rfl rfl ?_
    refine AOps.cd hT hA {} (by (repeat (cbv; simp only [c7])); first | done | cbv) (lb rfl) ?_
    refine nT ?_
    refine AWp.seq ?_
    refine AWp.seq ?_
    refine AWp.rg hT hA {} (by (repeat (cbv; simp only [c7])); first | done | cbv) (lb rfl) ?_
    refine nT ?_
    rcases tf (A.zeq r11 0) with c13 | c13
    · replace h := cT c13 h
      refine AWp.cdF rfl (by first | rfl | simp only [c7, c13, Bool.not_true, Bool.not_false, cond_true, cond_false]) ?_
      refine AWp.skip ?_
      refine nT ?_
      refine AWp.seq ?_
      refine AWp.rg hT hA {} (by (repeat (cbv; simp only [c7, c13])); first | done | cbv) (lb rfl) ?_
      refine nT ?_
      obtain ⟨l14, e15, h⟩ := bindS h
      obtain ⟨f16, f17⟩ := fzI hA e15
      refine AWp.freeze (s := 8) (i := 0) rfl rfl f16 f17 ?_
      refine AWp.ret ?_
      cases soI h
      exact ⟨rfl, rfl, rfl, lb rfl, _, rfl⟩
    · replace h := cF c13 h
      refine AWp.cdT rfl (by first | rfl | simp only [c7, c13, Bool.not_true, Bool.not_false, cond_true, cond_false]) ?_
      refine AWp.seq ?_
      refine AWp.rg hT hA {} (by (repeat (cbv; simp only [c7, c13])); first | done | cbv) (lb rfl) ?_
      refine nT ?_
      refine AWp.ret ?_
      refine rT ?_
      cases soI h
      exact ⟨rfl, rfl, rfl, lb rfl, _, rfl⟩
  · replace h := cF c7 h
    refine AOps.cc hT hA { tk := [14], esc := [10] } (by cbv) (lb rfl) (H90w hA e5) rfl (.inl rfl) rfl rfl rfl (lb rfl) rfl rfl ?_
    refine AOps.cd hT hA { tk := [14], esc := [10] } (by (repeat (cbv; simp only [c7])); first | done | cbv) (lb rfl) ?_
    refine nT ?_
    refine AWp.seq ?_
    refine AWp.region ?_
    obtain ⟨r19, e18, h⟩ := bindS h
    refine AOps.cc hT hA {} (by (repeat (cbv; simp only [c7])); first | done | cbv) (lb rfl) (H62cw hA e18) rfl (.inl rfl) rfl rfl rfl (lb rfl) rfl rfl ?_
    refine AOps.cd hT hA {} (by (repeat (cbv; simp only [c7])); first | done | cbv) (lb rfl) ?_
    refine nT ?_
    refine AWp.seq ?_
    refine AWp.seq ?_
    refine AWp.rg hT hA {} (by (repeat (cbv; simp only [c7])); first | done | cbv) (lb rfl) ?_
    refine nT ?_
    rcases tf (A.zeq r19 0) with c20 | c20
    · replace h := cT c20 h
      refine AWp.cdF rfl (by first | rfl | simp only [c7, c20, Bool.not_true, Bool.not_false, cond_true, cond_false]) ?_
      refine AWp.skip ?_
      refine nT ?_
      refine AWp.seq ?_
      refine AWp.rg hT hA {} (by (repeat (cbv; simp only [c7, c20])); first | done | cbv) (lb rfl) ?_
      refine nT ?_
      refine AWp.ret ?_
      cases soI h
      exact ⟨rfl, rfl, rfl, lb rfl, _, rfl⟩
    · replace h := cF c20 h
      refine AWp.cdT rfl (by first | rfl | simp only [c7, c20, Bool.not_true, Bool.not_false, cond_true, cond_false]) ?_
      refine AWp.seq ?_
      refine AWp.rg hT hA {} (by (repeat (cbv; simp only [c7, c20])); first | done | cbv) (lb rfl) ?_
      refine nT ?_
      refine AWp.ret ?_
      refine rT ?_
      cases soI h
      exact ⟨rfl, rfl, rfl, lb rfl, _, rfl⟩

theorem H13w {A : Ar} (hA : A = Ar.std) {x1 : List D} {x2 : List D} {x3 : Int} {x4 : Int} {x5 : Int} {v73 : Bool} (h : H13 A x1 x2 x3 x4 x5 = some v73) : ACall Try.prog 13 [(.d (.list 4 x1)), (.d (.list 6 x2)), (.d (.agg [(.int .u8 x3), (.int .u8 x4), (.int .u8 x5)]))] [] (.d (.bool v73)) [] := by
  unfold H13 at h
  refine ACall.enter hT (fn := Try.f13) Try.func13 rfl (by decide) (by simp [Try.f13]) rfl rfl rfl rfl (lb rfl) ?_
  refine AWp.seq ?_
  refine AWp.rg hT hA {} (by cbv) (lb rfl) ?_
  refine nT ?_
  refine AWp.seq ?_
  refine AWp.seq ?_
  obtain ⟨v15, hvK16, h⟩ := bindS h
  refine AWp.cutN [0, 1, 5, 33] [] 0 (lb rfl) (fun τ => τ = { env := [(0, (.d (.list 4 x1))), (1, (.d (.list 6 x2))), (5, (.lbox [(.d (.int .u8 x3)), (.d (.int .u8 x4)), (.d (.int .u8 x5))])), (33, (.d (.bool v15)))], heap := [], n := 133 }) ?_ ?_
  · skip
    refine AWp.region ?_
    obtain ⟨r7, e6, hvK16⟩ := bindS hvK16
    refine AOps.cc hT hA {} (by cbv) (lb rfl) (H17w hA e6) rfl (.inl rfl) rfl rfl rfl (lb rfl) rfl rfl ?_
    rcases tf r7 with c8 | c8
    · replace hvK16 := cT c8 hvK16
      refine AOps.cd hT hA {} (by (repeat (cbv; simp only [c8])); first | done | cbv) (lb rfl) ?_
      cases soI hvK16
      exact oNi ⟨rfl, (by first | (cbv; done) | ((repeat (cbv; simp only [c8])); first | done | cbv))⟩
    · replace hvK16 := cF c8 hvK16
      obtain ⟨r10, e9, hvK16⟩ := bindS hvK16
      refine AOps.cc hT hA {} (by (repeat (cbv; simp only [c8])); first | done | cbv) (lb rfl) (H18w hA e9) rfl (.inl rfl) rfl rfl rfl (lb rfl) rfl rfl ?_
      rcases tf r10 with c11 | c11
      · replace hvK16 := cT c11 hvK16
        refine AOps.cd hT hA {} (by (repeat (cbv; simp only [c8, c11])); first | done | cbv) (lb rfl) ?_
        cases soI hvK16
        exact oNi ⟨rfl, (by first | (cbv; done) | ((repeat (cbv; simp only [c8, c11])); first | done | cbv))⟩
      · replace hvK16 := cF c11 hvK16
        obtain ⟨r13, e12, hvK16⟩ := bindS hvK16
        refine AOps.cc hT hA {} (by (repeat (cbv; simp only [c8, c11])); first | done | cbv) (lb rfl) (H39w hA e12) rfl (.inl rfl) rfl rfl rfl (lb rfl) rfl rfl ?_
        rcases tf r13 with c14 | c14
        · replace hvK16 := cT c14 hvK16
          refine AOps.cd hT hA {} (by (repeat (cbv; simp only [c8, c11, c14])); first | done | cbv) (lb rfl) ?_
          cases soI hvK16
          exact oNi ⟨rfl, (by first | (cbv; done) | ((repeat (cbv; simp only [c8, c11, c14])); first | done | cbv))⟩
        · replace hvK16 := cF c14 hvK16
          refine AOps.cd hT hA {} (by (repeat (cbv; simp only [c8, c11, c14])); first | done | cbv) (lb rfl) ?_
          cases soI hvK16
          exact oNi ⟨rfl, (by first | (cbv; done) | ((repeat (cbv; simp only [c8, c11, c14])); first | done | cbv))⟩
  · rintro _ rfl
    refine nT ?_
    rcases tf v15 with c17 | c17
    · replace h := cT c17 h
      refine AWp.cdT rfl (by first | rfl | simp only [c17, Bool.not_true, Bool.not_false, cond_true, cond_false]) ?_
      refine AWp.seq ?_
      refine AWp.region ?_
      obtain ⟨r19, e18, h⟩ := bindS h
      refine AOps.cc hT hA { tk := [34] } (by (repeat (cbv; simp only [c17])); first | done | cbv) (lb rfl) (H19w hA e18) rfl (.inl rfl) rfl rfl rfl (lb rfl) rfl rfl ?_
      refine AOps.cd hT hA { tk := [34] } (by (repeat (cbv; simp only [c17])); first | done | cbv) (lb rfl) ?_
      refine nT ?_
      refine AWp.ret ?_
      refine rT ?_
      cases soI h
      exact ⟨rfl, rfl, rfl, lb rfl, _, rfl⟩
    · replace h := cF c17 h
      refine AWp.cdF rfl (by first | rfl | simp only [c17, Bool.not_true, Bool.not_false, cond_true, cond_false]) ?_
      refine AWp.skip ?_
      refine nT ?_
      refine AWp.seq ?_
      obtain ⟨_, e20, h⟩ := bindS h
      have f21 := nkI e20
      refine AWp.rg hT hA {} (by (repeat (cbv; simp only [c17, f21])); first | done | cbv) (lb rfl) ?_
      refine nT ?_
      refine AWp.seq ?_
      obtain ⟨⟨a22, a23, a24, a25, a26, a27⟩, e28, h⟩ := bindS h
      obtain ⟨f29, f30⟩ := gtI e28
      obtain ⟨_, e31, h⟩ := bindS h
      have f32 := nkI e31
      obtain ⟨_, e33, h⟩ := bindS h
      have f34 := nkI e33
      refine AWp.rd hT hA {} rfl (by (repeat (cbv; simp only [c17, f29, f30, f32, f34])); first | done | cbv) (by kernel_rfl) (lb rfl) ?_
      refine nT ?_
      refine AWp.seq ?_
      refine AWp.region ?_
      obtain ⟨⟨r36, r37⟩, e35, h⟩ := bindS h
      refine AOps.cc hT hA {} (by (repeat (cbv; simp only [c17])); first | done | cbv) (lb rfl) (H26w hA e35) rfl (.inl rfl) rfl rfl rfl (lb rfl) rfl rfl ?_
      refine AOps.cd hT hA {} (by (repeat (cbv; simp only [c17])); first | done | cbv) (lb rfl) ?_
      refine nT ?_
      refine AWp.seq ?_
      refine AWp.region ?_
      obtain ⟨⟨r39, r40⟩, e38, h⟩ := bindS h
      refine AOps.cc hT hA {} (by (repeat (cbv; simp only [c17])); first | done | cbv) (lb rfl) (H30w hA e38) rfl (.inl rfl) rfl rfl rfl (lb rfl) rfl rfl ?_
      refine AOps.cd hT hA {} (by (repeat (cbv; simp only [c17])); first | done | cbv) (lb rfl) ?_
      refine nT ?_
      refine AWp.seq ?_
      refine AWp.seq ?_
      obtain ⟨v42, hvK43, h⟩ := bindS h
      refine AWp.cutN [0, 1, 7, 8, 9, 10, 12, 79] [] 0 (lb rfl) (fun τ => τ = { env := [(0, (.d (.list 4 x1))), (1, (.d (.list 6 x2))), (7, (.d (.int .i64 (A.rem (A.wrp .i64 x3) (A.len x2))))), (8, (.d (.int .i64 (A.zmax (A.wrp .i64 (A.zsub a26 (A.rem (A.wrp .i64 x4) 8))) 1)))), (9, (.d (.int .i64 (A.wrp .i64 (A.zadd a27 (A.rem (A.wrp .i64 x5) 8)))))), (10, (.d (.bool r36))), (12, (.d (.int .i64 r39))), (79, (.d (.bool v42)))], heap := [], n := 133 }) ?_ ?_
      · skip
        rcases tf (A.zeq r37 0) with c41 | c41
        · replace hvK43 := cT c41 hvK43
          refine AWp.rg hT hA {} (by (repeat (cbv; simp only [c17, c41])); first | done | cbv) (lb rfl) ?_
          cases soI hvK43
          exact oNi ⟨rfl, (by first | (cbv; done) | ((repeat (cbv; simp only [c17, c41])); first | done | cbv))⟩
        · replace hvK43 := cF c41 hvK43
          refine AWp.rg hT hA {} (by (repeat (cbv; simp only [c17, c41])); first | done | cbv) (lb rfl) ?_
          cases soI hvK43
          exact oNi ⟨rfl, (by first | (cbv; done) | ((repeat (cbv; simp only [c17, c41])); first | done | cbv))⟩
      · rintro _ rfl
        refine nT ?_
        rcases tf v42 with c44 | c44
        · replace h := cT c44 h
          refine AWp.cdT rfl (by first | rfl | simp only [c44, Bool.not_true, Bool.not_false, cond_true, cond_false]) ?_
          refine AWp.seq ?_
          refine AWp.rg hT hA {} (by (repeat (cbv; simp only [c44])); first | done | cbv) (lb rfl) ?_
          refine nT ?_
          refine AWp.ret ?_
          refine rT ?_
          cases soI h
          exact ⟨rfl, rfl, rfl, lb rfl, _, rfl⟩
        · replace h := cF c44 h
          refine AWp.cdF rfl (by first | rfl | simp only [c44, Bool.not_true, Bool.not_false, cond_true, cond_false]) ?_
          refine AWp.skip ?_
          refine nT ?_
          refine AWp.seq ?_
          refine AWp.region ?_
          obtain ⟨⟨r46, r47⟩, e45, h⟩ := bindS h
          refine AOps.cc hT hA {} (by (repeat (cbv; simp only [c44])); first | done | cbv) (lb rfl) (H41w hA e45) rfl (.inl rfl) rfl rfl rfl (lb rfl) rfl rfl ?_
          refine AOps.cd hT hA {} (by (repeat (cbv; simp only [c44])); first | done | cbv) (lb rfl) ?_
          refine nT ?_
          refine AWp.seq ?_
          refine AWp.seq ?_
          refine AWp.rg hT hA {} (by (repeat (cbv; simp only [c44])); first | done | cbv) (lb rfl) ?_
          refine nT ?_
          rcases tf (A.zeq r47 0) with c48 | c48
          · replace h := cT c48 h
            refine AWp.cdF rfl (by first | rfl | simp only [c44, c48, Bool.not_true, Bool.not_false, cond_true, cond_false]) ?_
            refine AWp.skip ?_
            refine nT ?_
            refine AWp.seq ?_
            refine AWp.region ?_
            obtain ⟨⟨r56, r57⟩, e55, h⟩ := bindS h
            refine AOps.cc hT hA {} (by (repeat (cbv; simp only [c44, c48])); first | done | cbv) (lb rfl) (H26w hA e55) rfl (.inl rfl) rfl rfl rfl (lb rfl) rfl rfl ?_
            refine AOps.cd hT hA {} (by (repeat (cbv; simp only [c44, c48])); first | done | cbv) (lb rfl) ?_
            refine nT ?_
            refine AWp.seq ?_
            refine AWp.region ?_
            obtain ⟨⟨r59, r60⟩, e58, h⟩ := bindS h
            refine AOps.cc hT hA {} (by (repeat (cbv; simp only [c44, c48])); first | done | cbv) (lb rfl) (H30w hA e58) rfl (.inl rfl) rfl rfl rfl (lb rfl) rfl rfl ?_
            refine AOps.cd hT hA {} (by (repeat (cbv; simp only [c44, c48])); first | done | cbv) (lb rfl) ?_
            refine nT ?_
            refine AWp.seq ?_
            obtain ⟨v71, hvK72, h⟩ := bindS h
            refine AWp.cutN [6] [] 0 (lb rfl) (fun τ => τ = { env := [(6, (.d (.bool v71)))], heap := [], n := 133 }) ?_ ?_
            · skip
              refine AWp.region ?_
              rcases tf (A.zeq r57 0) with c61 | c61
              · replace hvK72 := cT c61 hvK72
                rcases tf (A.zeq r60 0) with c62 | c62
                · replace hvK72 := cT c62 hvK72
                  rcases tf r36 with c63 | c63
                  · replace hvK72 := cT c63 hvK72
                    rcases tf r56 with c64 | c64
                    · replace hvK72 := cT c64 hvK72
                      rcases tf (A.zle r39 r59) with c65 | c65
                      · replace hvK72 := cT c65 hvK72
                        obtain ⟨r67, e66, hvK72⟩ := bindS hvK72
                        refine AOps.cc hT hA { tk := [132] } (by (repeat (cbv; simp only [c44, c48, c61, c62, c63, c64, c65])); first | done | cbv) (lb rfl) (H19w hA e66) rfl (.inl rfl) rfl rfl rfl (lb rfl) rfl rfl ?_
                        refine AOps.cd hT hA { tk := [132] } (by (repeat (cbv; simp only [c44, c48, c61, c62, c63, c64, c65])); first | done | cbv) (lb rfl) ?_
                        cases soI hvK72
                        exact oNi ⟨rfl, (by first | (cbv; done) | ((repeat (cbv; simp only [c44, c48, c61, c62, c63, c64, c65])); first | done | cbv))⟩
                      · replace hvK72 := cF c65 hvK72
                        refine AOps.cd hT hA { tk := [132] } (by (repeat (cbv; simp only [c44, c48, c61, c62, c63, c64, c65])); first | done | cbv) (lb rfl) ?_
                        cases soI hvK72
                        exact oNi ⟨rfl, (by first | (cbv; done) | ((repeat (cbv; simp only [c44, c48, c61, c62, c63, c64, c65])); first | done | cbv))⟩
                    · replace hvK72 := cF c64 hvK72
                      refine AOps.cd hT hA { tk := [132] } (by (repeat (cbv; simp only [c44, c48, c61, c62, c63, c64])); first | done | cbv) (lb rfl) ?_
                      cases soI hvK72
                      exact oNi ⟨rfl, (by first | (cbv; done) | ((repeat (cbv; simp only [c44, c48, c61, c62, c63, c64])); first | done | cbv))⟩
                  · replace hvK72 := cF c63 hvK72
                    rcases tf (A.zle r39 r59) with c68 | c68
                    · replace hvK72 := cT c68 hvK72
                      obtain ⟨r70, e69, hvK72⟩ := bindS hvK72
                      refine AOps.cc hT hA { tk := [132] } (by (repeat (cbv; simp only [c44, c48, c61, c62, c63, c68])); first | done | cbv) (lb rfl) (H19w hA e69) rfl (.inl rfl) rfl rfl rfl (lb rfl) rfl rfl ?_
                      refine AOps.cd hT hA { tk := [132] } (by (repeat (cbv; simp only [c44, c48, c61, c62, c63, c68])); first | done | cbv) (lb rfl) ?_
                      cases soI hvK72
                      exact oNi ⟨rfl, (by first | (cbv; done) | ((repeat (cbv; simp only [c44, c48, c61, c62, c63, c68])); first | done | cbv))⟩
                    · replace hvK72 := cF c68 hvK72
                      refine AOps.cd hT hA { tk := [132] } (by (repeat (cbv; simp only [c44, c48, c61, c62, c63, c68])); first | done | cbv) (lb rfl) ?_
                      cases soI hvK72
                      exact oNi ⟨rfl, (by first | (cbv; done) | ((repeat (cbv; simp only [c44, c48, c61, c62, c63, c68])); first | done | cbv))⟩
                · replace hvK72 := cF c62 hvK72
                  refine AOps.cd hT hA { tk := [132] } (by (repeat (cbv; simp only [c44, c48, c61, c62])); first | done | cbv) (lb rfl) ?_
                  cases soI hvK72
                  exact oNi ⟨rfl, (by first | (cbv; done) | ((repeat (cbv; simp only [c44, c48, c61, c62])); first | done | cbv))⟩
              · replace hvK72 := cF c61 hvK72
                refine AOps.cd hT hA { tk := [132] } (by (repeat (cbv; simp only [c44, c48, c61])); first | done | cbv) (lb rfl) ?_
                cases soI hvK72
                exact oNi ⟨rfl, (by first | (cbv; done) | ((repeat (cbv; simp only [c44, c48, c61])); first | done | cbv))⟩
            · rintro _ rfl
              refine nT ?_
              refine AWp.ret ?_
              cases soI h
              exact ⟨rfl, rfl, rfl, lb rfl, _, rfl⟩
          · replace h := cF c48 h
            refine AWp.cdT rfl (by first | rfl | simp only [c44, c48, Bool.not_true, Bool.not_false, cond_true, cond_false]) ?_
            refine AWp.seq ?_
            obtain ⟨v53, hvK54, h⟩ := bindS h
            refine AWp.cutN [6] [] 0 (lb rfl) (fun τ => τ = { env := [(6, (.d (.bool v53)))], heap := [], n := 133 }) ?_ ?_
            · skip
              refine AWp.region ?_
              rcases tf (A.zeq r47 2) with c49 | c49
              · replace hvK54 := cT c49 hvK54
                rcases tf (A.zeq (A.len r46) 0) with c50 | c50
                · replace hvK54 := cT c50 hvK54
                  obtain ⟨r52, e51, hvK54⟩ := bindS hvK54
                  refine AOps.cc hT hA { tk := [99] } (by (repeat (cbv; simp only [c44, c48, c49, c50])); first | done | cbv) (lb rfl) (H19w hA e51) rfl (.inl rfl) rfl rfl rfl (lb rfl) rfl rfl ?_
                  refine AOps.cd hT hA { tk := [99] } (by (repeat (cbv; simp only [c44, c48, c49, c50])); first | done | cbv) (lb rfl) ?_
                  cases soI hvK54
                  exact oNi ⟨rfl, (by first | (cbv; done) | ((repeat (cbv; simp only [c44, c48, c49, c50])); first | done | cbv))⟩
                · replace hvK54 := cF c50 hvK54
                  refine AOps.cd hT hA { tk := [99] } (by (repeat (cbv; simp only [c44, c48, c49, c50])); first | done | cbv) (lb rfl) ?_
                  cases soI hvK54
                  exact oNi ⟨rfl, (by first | (cbv; done) | ((repeat (cbv; simp only [c44, c48, c49, c50])); first | done | cbv))⟩
              · replace hvK54 := cF c49 hvK54
                refine AOps.cd hT hA { tk := [99] } (by (repeat (cbv; simp only [c44, c48, c49])); first | done | cbv) (lb rfl) ?_
                cases soI hvK54
                exact oNi ⟨rfl, (by first | (cbv; done) | ((repeat (cbv; simp only [c44, c48, c49])); first | done | cbv))⟩
            · rintro _ rfl
              refine nT ?_
              refine AWp.ret ?_
              refine rT ?_
              cases soI h
              exact ⟨rfl, rfl, rfl, lb rfl, _, rfl⟩
end Go.Am
