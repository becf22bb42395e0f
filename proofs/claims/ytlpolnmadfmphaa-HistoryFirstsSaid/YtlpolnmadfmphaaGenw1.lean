/- Own text: Genw1. -/
import Derived.Test.YtlpolnmadfmphaaGenw0
set_option maxRecDepth 100000
set_option maxHeartbeats 2000000
set_option linter.unusedVariables false
set_option linter.unusedSimpArgs false
namespace Go.Am
open Go Go.Proofs
theorem H116hw {A : Ar} (hA : A = Ar.std) {x1 : Int} {x2 : Int} {x3 : Int} {x4 : List (D × D)} {x5 : List D} {x6 : List D} {x7 : Int} {v8 : Int} {v9 : Int} {v10 : Int} (h : H116h A x1 x2 x3 x4 x5 x6 x7 = some (v8, v9, v10)) : ACall Try.prog 116 [(.ptr 1 0), (.d (.agg [(.int .u8 x1), (.int .i64 x2), (.int .i64 x3)]))] [(.map true [.int .u8, .int .i64, .int .i64] x4), (.cells [(.d (.list 4 x5)), (.d (.list 6 x6)), (.func 73 [] []), (.map 0)]), (.cells [(.ptr 1 0)]), (.cells [(.d (.int .i64 x7))])] (.func 125 [] [(.ptr 4 0), (.ptr 5 0)]) [(.map true [.int .u8, .int .i64, .int .i64] x4), (.cells [(.d (.list 4 x5)), (.d (.list 6 x6)), (.func 73 [] []), (.map 0)]), (.cells [(.ptr 1 0)]), (.cells [(.d (.int .i64 x7))]), (.cells [(.ptr 1 0)]), (.cells [(.d (.int .u8 v8)), (.d (.int .i64 v9)), (.d (.int .i64 v10))])] := by
  unfold H116h at h
  refine ACall.enter hT (fn := Try.f116) Try.func116 rfl (by decide) (by simp [Try.f116]) rfl rfl rfl rfl (lb rfl) ?_
  refine AWp.seq ?_
  refine AWp.rg hT hA { esc := [2, 3] } (by cbv) (lb rfl) ?_
  refine nT ?_
  refine AWp.seq ?_
  refine AWp.rg hT hA { tk := [5] } (by cbv) (lb rfl) ?_
  refine nT ?_
  refine AWp.ret ?_
  cases soI h
  exact ⟨rfl, rfl, rfl, lb rfl, _, rfl⟩

theorem H73aw {A : Ar} (hA : A = Ar.std) {x1 : Int} {x2 : Int} {x3 : Int} {x4 : Int} {x5 : Int} {x6 : Int} {x7 : Int} {x8 : Int} {x9 : Int} {x10 : Int} {x11 : Int} {x12 : Int} {v16 : Bool} (h : H73a A x1 x2 x3 x4 x5 x6 x7 x8 x9 x10 x11 x12 = some v16) : ACall Try.prog 73 [(.d (.agg [(.int .i64 x1), (.int .i64 x2), (.int .i64 x3), (.int .i64 x4), (.int .i64 x5), (.int .i64 x6)])), (.d (.agg [(.int .i64 x7), (.int .i64 x8), (.int .i64 x9), (.int .i64 x10), (.int .i64 x11), (.int .i64 x12)]))] [] (.d (.bool v16)) [] := by
  unfold H73a at h
  refine ACall.enter hT (fn := Try.f73) Try.func73 rfl (by decide) (by simp [Try.f73]) rfl rfl rfl rfl (lb rfl) ?_
  refine AWp.seq ?_
  refine AWp.rg hT hA {} (by cbv) (lb rfl) ?_
  refine nT ?_
  refine AWp.seq ?_
  obtain ⟨v14, hvK15, h⟩ := bindS h
  refine AWp.cutN [4] [] 0 (lb rfl) (fun τ => τ = { env := [(4, (.d (.bool v14)))], heap := [], n := 17 }) ?_ ?_
  · skip
    rcases tf (A.zeq x1 x7) with c13 | c13
    · replace hvK15 := cT c13 hvK15
      refine AWp.rg hT hA { tk := [16] } (by (repeat (cbv; simp only [c13])); first | done | cbv) (lb rfl) ?_
      cases soI hvK15
      exact oNi ⟨rfl, (by first | cbv | ((repeat (cbv; simp only [c13])); first | done | cbv))⟩
    · replace hvK15 := cF c13 hvK15
      refine AWp.rg hT hA { tk := [16] } (by (repeat (cbv; simp only [c13])); first | done | cbv) (lb rfl) ?_
      cases soI hvK15
      exact oNi ⟨rfl, (by first | cbv | ((repeat (cbv; simp only [c13])); first | done | cbv))⟩
  · rintro _ rfl
    refine nT ?_
    refine AWp.ret ?_
    cases soI h
    exact ⟨rfl, rfl, rfl, lb rfl, _, rfl⟩

theorem H125dw {A : Ar} (hA : A = Ar.std) {self81 : Int → Int → Int → (List (D × D)) → List D → List D → (Option (Int × List (D × D)))} (ih81 : ∀ {x1 : Int} {x2 : Int} {x3 : Int} {x4 : List (D × D)} {x5 : List D} {x6 : List D} {y1 : Int} {y2 : List (D × D)}, self81 x1 x2 x3 x4 x5 x6 = some (y1, y2) → ACall Try.prog 74 [(.ptr 1 0), (.d (.agg [(.int .u8 x1), (.int .i64 x2), (.int .i64 x3)]))] [(.map true [.int .u8, .int .i64, .int .i64] x4), (.cells [(.d (.list 4 x5)), (.d (.list 6 x6)), (.func 73 [] []), (.map 0)])] (.d (.int .i64 y1)) [(.map true [.int .u8, .int .i64, .int .i64] y2), (.cells [(.d (.list 4 x5)), (.d (.list 6 x6)), (.func 73 [] []), (.map 0)])]) {x1 : List (D × D)} {x2 : List D} {x3 : List D} {x4 : Int} {x5 : Int} {x6 : Int} {x7 : Int} {v155 : List (D × D)} {v156 : Int} (h : H125d A self81 x1 x2 x3 x4 x5 x6 x7 = some (v155, v156)) : ACall Try.prog 125 [(.yield 6), (.ptr 4 0), (.ptr 5 0)] [(.map true [.int .u8, .int .i64, .int .i64] x1), (.cells [(.d (.list 4 x2)), (.d (.list 6 x3)), (.func 73 [] []), (.map 0)]), (.cells [(.ptr 1 0)]), (.cells [(.d (.int .i64 x4))]), (.cells [(.ptr 1 0)]), (.cells [(.d (.int .u8 x5)), (.d (.int .i64 x6)), (.d (.int .i64 x7))]), (.loop { st := .ready, pending := none, env := [(2, (.ptr 2 0)), (7, (.ptr 3 0))], n := 41, params := #[27, 28], assign := HA74r0, body := HB74r0 })] (.tuple []) [(.map true [.int .u8, .int .i64, .int .i64] v155), (.cells [(.d (.list 4 x2)), (.d (.list 6 x3)), (.func 73 [] []), (.map 0)]), (.cells [(.ptr 1 0)]), (.cells [(.d (.int .i64 v156))]), (.cells [(.ptr 1 0)]), (.cells [(.d (.int .u8 x5)), (.d (.int .i64 x6)), (.d (.int .i64 x7))]), (.loop { st := .ready, pending := none, env := [(2, (.ptr 2 0)), (7, (.ptr 3 0))], n := 41, params := #[27, 28], assign := HA74r0, body := HB74r0 })] := by
  unfold H125d at h
  refine ACall.enter hT (fn := Try.f125) Try.func125 rfl (by decide) (by simp [Try.f125]) rfl rfl rfl rfl (lb rfl) ?_
  refine AWp.seq ?_
  refine AWp.rg hT hA {} (by cbv) (lb rfl) ?_
  refine nT ?_
  refine AWp.block ?_
  obtain ⟨xK154, hxK154, K154, hK154, hkK154⟩ := bindK h
  refine AWp.cutX 0 [] [] 7 (lb rfl) (fun τ => ∃ v152 v153, K154 (v152, v153) = some (v155, v156) ∧ τ = { env := [], heap := [(.map true [.int .u8, .int .i64, .int .i64] v152), (.cells [(.d (.list 4 x2)), (.d (.list 6 x3)), (.func 73 [] []), (.map 0)]), (.cells [(.ptr 1 0)]), (.cells [(.d (.int .i64 v153))]), (.cells [(.ptr 1 0)]), (.cells [(.d (.int .u8 x5)), (.d (.int .i64 x6)), (.d (.int .i64 x7))]), (.loop { st := .ready, pending := none, env := [(2, (.ptr 2 0)), (7, (.ptr 3 0))], n := 41, params := #[27, 28], assign := HA74r0, body := HB74r0 })], n := 82 }) ?_ ?_
  · skip
    refine AWp.iter hxK154 [0, 1, 2, 14, 15, 16] [] 7 (lb rfl) (fun (v74, v75, v76) => { env := [(0, (.yield 6)), (1, (.ptr 4 0)), (2, (.ptr 5 0)), (14, (.d (.list 6 x3))), (15, (.d (.int .i64 (A.len x3)))), (16, (.d (.int .i64 v74)))], heap := [(.map true [.int .u8, .int .i64, .int .i64] v75), (.cells [(.d (.list 4 x2)), (.d (.list 6 x3)), (.func 73 [] []), (.map 0)]), (.cells [(.ptr 1 0)]), (.cells [(.d (.int .i64 v76))]), (.cells [(.ptr 1 0)]), (.cells [(.d (.int .u8 x5)), (.d (.int .i64 x6)), (.d (.int .i64 x7))]), (.loop { st := .ready, pending := none, env := [(2, (.ptr 2 0)), (7, (.ptr 3 0))], n := 41, params := #[27, 28], assign := HA74r0, body := HB74r0 })], n := 82 }) ⟨rfl, (by cbv)⟩ ?_
    rintro ⟨v74, v75, v76⟩ eK154 hsK154
    dsimp only [H125dL1] at hsK154
    refine AWp.seq ?_
    refine AWp.rg hT hA {} (by cbv) (lb rfl) ?_
    refine nT ?_
    refine AWp.seq ?_
    rcases tf (A.zlt v74 (A.len x3)) with c77 | c77
    · replace hsK154 := cT c77 hsK154
      refine AWp.cdT rfl (by first | rfl | simp only [c77, Bool.not_true, Bool.not_false, cond_true, cond_false]) ?_
      refine AWp.skip ?_
      refine nT ?_
      refine AWp.seq ?_
      obtain ⟨⟨v149, v150⟩, hvK151, hsK154⟩ := bindS hsK154
      refine AWp.cutN [0, 1, 2, 14, 15, 16] [] 7 (lb rfl) (fun τ => τ = { env := [(0, (.yield 6)), (1, (.ptr 4 0)), (2, (.ptr 5 0)), (14, (.d (.list 6 x3))), (15, (.d (.int .i64 (A.len x3)))), (16, (.d (.int .i64 v74)))], heap := [(.map true [.int .u8, .int .i64, .int .i64] v149), (.cells [(.d (.list 4 x2)), (.d (.list 6 x3)), (.func 73 [] []), (.map 0)]), (.cells [(.ptr 1 0)]), (.cells [(.d (.int .i64 v150))]), (.cells [(.ptr 1 0)]), (.cells [(.d (.int .u8 x5)), (.d (.int .i64 x6)), (.d (.int .i64 x7))]), (.loop { st := .ready, pending := none, env := [(2, (.ptr 2 0)), (7, (.ptr 3 0))], n := 41, params := #[27, 28], assign := HA74r0, body := HB74r0 })], n := 82 }) ?_ ?_
      · skip
        refine AWp.block ?_
        refine AWp.seq ?_
        obtain ⟨⟨a78, a79, a80, a81, a82, a83⟩, e84, hvK151⟩ := bindS hvK151
        obtain ⟨f85, f86⟩ := gtI e84
        refine AWp.rg hT hA { tk := [20] } (by (repeat (cbv; simp only [c77, f85, f86])); first | done | cbv) (lb rfl) ?_
        refine nT ?_
        refine AWp.seq ?_
        refine AWp.region ?_
        obtain ⟨r88, e87, hvK151⟩ := bindS hvK151
        refine AOps.cc hT hA {} (by (repeat (cbv; simp only [c77])); first | done | cbv) (lb rfl) (H124aw hA e87) rfl (.inr rfl) rfl rfl rfl (lb rfl) rfl rfl ?_
        refine AOps.cd hT hA {} (by (repeat (cbv; simp only [c77])); first | done | cbv) (lb rfl) ?_
        refine nT ?_
        refine AWp.seq ?_
        refine AWp.seq ?_
        refine AWp.rg hT hA {} (by (repeat (cbv; simp only [c77])); first | done | cbv) (lb rfl) ?_
        refine nT ?_
        refine AWp.block ?_
        obtain ⟨xK128, hxK128, K128, hK128, hkK128⟩ := bindK hvK151
        refine AWp.cutX 2 [0, 1, 2, 4, 5, 6, 14, 15, 16] [] 7 (lb rfl) (fun τ => ∃ v127, K128 v127 = some (v149, v150) ∧ τ = { env := [(0, (.yield 6)), (1, (.ptr 4 0)), (2, (.ptr 5 0)), (4, (.d (.int .i64 v74))), (5, (.lbox [(.d (.int .i64 a78)), (.d (.int .i64 a79)), (.d (.int .i64 a80)), (.d (.int .i64 a81)), (.d (.int .i64 a82)), (.d (.int .i64 a83))])), (6, (.d (.bool v127))), (14, (.d (.list 6 x3))), (15, (.d (.int .i64 (A.len x3)))), (16, (.d (.int .i64 v74)))], heap := [(.map true [.int .u8, .int .i64, .int .i64] v75), (.cells [(.d (.list 4 x2)), (.d (.list 6 x3)), (.func 73 [] []), (.map 0)]), (.cells [(.ptr 1 0)]), (.cells [(.d (.int .i64 v76))]), (.cells [(.ptr 1 0)]), (.cells [(.d (.int .u8 x5)), (.d (.int .i64 x6)), (.d (.int .i64 x7))]), (.loop { st := .ready, pending := none, env := [(2, (.ptr 2 0)), (7, (.ptr 3 0))], n := 41, params := #[27, 28], assign := HA74r0, body := HB74r0 })], n := 82 }) ?_ ?_
        · skip
          refine AWp.iter hxK128 [0, 1, 2, 4, 5, 6, 14, 15, 16, 29, 30, 31] [] 7 (lb rfl) (fun (v107, v108) => { env := [(0, (.yield 6)), (1, (.ptr 4 0)), (2, (.ptr 5 0)), (4, (.d (.int .i64 v74))), (5, (.lbox [(.d (.int .i64 a78)), (.d (.int .i64 a79)), (.d (.int .i64 a80)), (.d (.int .i64 a81)), (.d (.int .i64 a82)), (.d (.int .i64 a83))])), (6, (.d (.bool v107))), (14, (.d (.list 6 x3))), (15, (.d (.int .i64 (A.len x3)))), (16, (.d (.int .i64 v74))), (29, (.d (.list 6 x3))), (30, (.d (.int .i64 (A.len x3)))), (31, (.d (.int .i64 v108)))], heap := [(.map true [.int .u8, .int .i64, .int .i64] v75), (.cells [(.d (.list 4 x2)), (.d (.list 6 x3)), (.func 73 [] []), (.map 0)]), (.cells [(.ptr 1 0)]), (.cells [(.d (.int .i64 v76))]), (.cells [(.ptr 1 0)]), (.cells [(.d (.int .u8 x5)), (.d (.int .i64 x6)), (.d (.int .i64 x7))]), (.loop { st := .ready, pending := none, env := [(2, (.ptr 2 0)), (7, (.ptr 3 0))], n := 41, params := #[27, 28], assign := HA74r0, body := HB74r0 })], n := 82 }) ⟨rfl, (by first | cbv | ((repeat (cbv; simp only [c77])); first | done | cbv))⟩ ?_
          rintro ⟨v107, v108⟩ eK128 hsK128
          dsimp only [H125dL0] at hsK128
          refine AWp.seq ?_
          refine AWp.rg hT hA {} (by cbv) (lb rfl) ?_
          refine nT ?_
          refine AWp.seq ?_
          rcases tf (A.zlt v108 (A.len x3)) with c109 | c109
          · replace hsK128 := cT c109 hsK128
            refine AWp.cdT rfl (by first | rfl | simp only [c109, Bool.not_true, Bool.not_false, cond_true, cond_false]) ?_
            refine AWp.skip ?_
            refine nT ?_
            refine AWp.seq ?_
            refine AWp.block ?_
            refine AWp.seq ?_
            obtain ⟨⟨a110, a111, a112, a113, a114, a115⟩, e116, hsK128⟩ := bindS hsK128
            obtain ⟨f117, f118⟩ := gtI e116
            refine AWp.rg hT hA { tk := [35] } (by (repeat (cbv; simp only [c109, f117, f118])); first | done | cbv) (lb rfl) ?_
            refine nT ?_
            obtain ⟨v125, hvK126, hsK128⟩ := bindS hsK128
            refine AWp.cutN [0, 1, 2, 4, 5, 6, 14, 15, 16, 29, 30, 31] [] 7 (lb rfl) (fun τ => τ = { env := [(0, (.yield 6)), (1, (.ptr 4 0)), (2, (.ptr 5 0)), (4, (.d (.int .i64 v74))), (5, (.lbox [(.d (.int .i64 a78)), (.d (.int .i64 a79)), (.d (.int .i64 a80)), (.d (.int .i64 a81)), (.d (.int .i64 a82)), (.d (.int .i64 a83))])), (6, (.d (.bool v125))), (14, (.d (.list 6 x3))), (15, (.d (.int .i64 (A.len x3)))), (16, (.d (.int .i64 v74))), (29, (.d (.list 6 x3))), (30, (.d (.int .i64 (A.len x3)))), (31, (.d (.int .i64 v108)))], heap := [(.map true [.int .u8, .int .i64, .int .i64] v75), (.cells [(.d (.list 4 x2)), (.d (.list 6 x3)), (.func 73 [] []), (.map 0)]), (.cells [(.ptr 1 0)]), (.cells [(.d (.int .i64 v76))]), (.cells [(.ptr 1 0)]), (.cells [(.d (.int .u8 x5)), (.d (.int .i64 x6)), (.d (.int .i64 x7))]), (.loop { st := .ready, pending := none, env := [(2, (.ptr 2 0)), (7, (.ptr 3 0))], n := 41, params := #[27, 28], assign := HA74r0, body := HB74r0 })], n := 82 }) ?_ ?_
            · skip
              refine AWp.regionDraw rfl (lb rfl) ?_
              rcases tf v107 with c119 | c119
              · replace hvK126 := cT c119 hvK126
                obtain ⟨r121, e120, hvK126⟩ := bindS hvK126
                refine DOps.c0 hT hA {} rfl (by (repeat (cbv; simp only [c109, c119])); first | done | cbv) (H124aw hA e120) rfl rfl (lb rfl) rfl rfl ?_
                rcases tf r121 with c122 | c122
                · replace hvK126 := cT c122 hvK126
                  refine DOps.cd hT hA {} rfl (by (repeat (cbv; simp only [c109, c119, c122])); first | done | cbv) (by kernel_rfl) ?_
                  cases soI hvK126
                  exact oNi ⟨rfl, (by first | cbv | ((repeat (cbv; simp only [c109, c119, c122])); first | done | cbv))⟩
                · replace hvK126 := cF c122 hvK126
                  obtain ⟨r124, e123, hvK126⟩ := bindS hvK126
                  refine DOps.c0 hT hA {} rfl (by (repeat (cbv; simp only [c109, c119, c122])); first | done | cbv) (H73aw hA e123) rfl rfl (lb rfl) rfl rfl ?_
                  refine DOps.cd hT hA {} rfl (by (repeat (cbv; simp only [c109, c119, c122])); first | done | cbv) (by kernel_rfl) ?_
                  cases soI hvK126
                  exact oNi ⟨rfl, (by first | cbv | ((repeat (cbv; simp only [c109, c119, c122])); first | done | cbv))⟩
              · replace hvK126 := cF c119 hvK126
                refine DOps.cd hT hA {} rfl (by (repeat (cbv; simp only [c109, c119])); first | done | cbv) (by kernel_rfl) ?_
                cases soI hvK126
                exact oNi ⟨rfl, (by first | cbv | ((repeat (cbv; simp only [c109, c119])); first | done | cbv))⟩
            · rintro _ rfl
              refine nB ?_
              refine nT ?_
              refine AWp.rg hT hA {} (by cbv) (lb rfl) ?_
              exact nT ⟨_, (soI hsK128).symm, rfl, (by cbv)⟩
          · replace hsK128 := cF c109 hsK128
            refine AWp.cdF rfl (by first | rfl | simp only [c109, Bool.not_true, Bool.not_false, cond_true, cond_false]) ?_
            refine AWp.exit ?_
            refine xT ?_
            refine xT ?_
            refine exL hsK128 fun hx => ?_
            subst hx
            exact oxI ⟨rfl, _, hkK128, (by first | cbv | ((repeat (cbv; simp only [c109])); first | done | cbv))⟩
        · rintro _ ⟨v127, hkK128, rfl⟩
          have hvK151 := (hK128 _ hkK128)
          refine xB ?_
          refine nT ?_
          refine AWp.seq ?_
          refine AWp.seq ?_
          refine AWp.rg hT hA {} (by cbv) (lb rfl) ?_
          refine nT ?_
          rcases tf v127 with c129 | c129
          · replace hvK151 := cT c129 hvK151
            refine AWp.cdF rfl (by first | rfl | simp only [c129, Bool.not_true, Bool.not_false, cond_true, cond_false]) ?_
            refine AWp.skip ?_
            refine nT ?_
            refine AWp.seq ?_
            refine AWp.regionDraw rfl (lb rfl) ?_
            obtain ⟨⟨r131, r132, r133⟩, e130, hvK151⟩ := bindS hvK151
            refine DOps.c0 hT hA { tk := [65] } rfl (by (repeat (cbv; simp only [c129])); first | done | cbv) (H78aw hA e130) rfl rfl (lb rfl) rfl rfl ?_
            refine DOps.cd hT hA { tk := [65] } rfl (by (repeat (cbv; simp only [c129])); first | done | cbv) (by kernel_rfl) ?_
            refine nT ?_
            refine AWp.seq ?_
            obtain ⟨⟨v146, v147⟩, hvK148, hvK151⟩ := bindS hvK151
            refine AWp.cutN [0, 1, 2, 14, 15, 16, 80] [] 7 (lb rfl) (fun τ => τ = { env := [(0, (.yield 6)), (1, (.ptr 4 0)), (2, (.ptr 5 0)), (14, (.d (.list 6 x3))), (15, (.d (.int .i64 (A.len x3)))), (16, (.d (.int .i64 v74))), (80, (.d (.bool false)))], heap := [(.map true [.int .u8, .int .i64, .int .i64] v146), (.cells [(.d (.list 4 x2)), (.d (.list 6 x3)), (.func 73 [] []), (.map 0)]), (.cells [(.ptr 1 0)]), (.cells [(.d (.int .i64 v147))]), (.cells [(.ptr 1 0)]), (.cells [(.d (.int .u8 x5)), (.d (.int .i64 x6)), (.d (.int .i64 x7))]), (.loop { st := .ready, pending := none, env := [(2, (.ptr 2 0)), (7, (.ptr 3 0))], n := 41, params := #[27, 28], assign := HA74r0, body := HB74r0 })], n := 82 }) ?_ ?_
            · skip
              refine AWp.regionDraw rfl (lb rfl) ?_
              rcases tf r133 with c134 | c134
              · replace hvK148 := cT c134 hvK148
                obtain ⟨_, e135, hvK148⟩ := bindS hvK148
                have f136 := nkI e135
                obtain ⟨q144, hr145, hvK148⟩ := bindS hvK148
                obtain ⟨v142, v143⟩ := q144
                have y141 : YCall Try.prog 6 [(.d (.int .i64 v74)), (.d (.agg [(.int .u8 (A.bits .or .u8 x5 (A.shl .u8 1 v74))), (.int .i64 r131), (.int .i64 r132)]))] [(.map true [.int .u8, .int .i64, .int .i64] v75), (.cells [(.d (.list 4 x2)), (.d (.list 6 x3)), (.func 73 [] []), (.map 0)]), (.cells [(.ptr 1 0)]), (.cells [(.d (.int .i64 v76))]), (.cells [(.ptr 1 0)]), (.cells [(.d (.int .u8 x5)), (.d (.int .i64 x6)), (.d (.int .i64 x7))]), (.loop { st := .ready, pending := none, env := [(2, (.ptr 2 0)), (7, (.ptr 3 0))], n := 41, params := #[27, 28], assign := HA74r0, body := HB74r0 })] (.d (.bool true)) [(.map true [.int .u8, .int .i64, .int .i64] v142), (.cells [(.d (.list 4 x2)), (.d (.list 6 x3)), (.func 73 [] []), (.map 0)]), (.cells [(.ptr 1 0)]), (.cells [(.d (.int .i64 v143))]), (.cells [(.ptr 1 0)]), (.cells [(.d (.int .u8 x5)), (.d (.int .i64 x6)), (.d (.int .i64 x7))]), (.loop { st := .ready, pending := none, env := [(2, (.ptr 2 0)), (7, (.ptr 3 0))], n := 41, params := #[27, 28], assign := HA74r0, body := HB74r0 })] := by
                  refine YCall.mk rfl rfl rfl rfl rfl rfl (lb rfl) ?_
                  dsimp only [HA74r0, HB74r0, cAt, Try.f74, Option.getD]
                  refine AWp.rg hT hA { tk := [28] } (by cbv) (lb rfl) ?_
                  refine ⟨rfl, rfl, ?_⟩
                  refine AWp.block ?_
                  refine AWp.regionDraw rfl (lb rfl) ?_
                  obtain ⟨⟨r139, r140⟩, e138, hr145⟩ := bindS hr145
                  refine DOps.cl hT hA { tk := [33] } rfl (by cbv) (ih81 e138) rfl rfl rfl rfl rfl (lb rfl) rfl rfl ?_
                  refine DOps.cd hT hA { tk := [33] } rfl (by cbv) (by kernel_rfl) ?_
                  refine nB ?_
                  cases soI hr145
                  exact ⟨rfl, rfl, _, rfl⟩
                refine DOps.cy hT hA {} rfl (by (repeat (cbv; simp only [c129, c134, f136])); first | done | cbv) y141 rfl (.inl rfl) rfl rfl rfl (lb rfl) rfl rfl ?_
                refine DOps.cd hT hA {} rfl (by (repeat (cbv; simp only [c129, c134, f136])); first | done | cbv) (by kernel_rfl) ?_
                cases soI hvK148
                exact oNi ⟨rfl, (by first | cbv | ((repeat (cbv; simp only [c129, c134])); first | done | cbv))⟩
              · replace hvK148 := cF c134 hvK148
                refine DOps.cd hT hA {} rfl (by (repeat (cbv; simp only [c129, c134])); first | done | cbv) (by kernel_rfl) ?_
                cases soI hvK148
                exact oNi ⟨rfl, (by first | cbv | ((repeat (cbv; simp only [c129, c134])); first | done | cbv))⟩
            · rintro _ rfl
              refine nT ?_
              refine AWp.cdF rfl (by first | rfl | simp only [Bool.not_true, Bool.not_false, cond_true, cond_false]) ?_
              refine AWp.skip ?_
              refine nB ?_
              cases soI hvK151
              exact oNi ⟨rfl, (by cbv)⟩
          · replace hvK151 := cF c129 hvK151
            refine AWp.cdT rfl (by first | rfl | simp only [c129, Bool.not_true, Bool.not_false, cond_true, cond_false]) ?_
            refine AWp.exit ?_
            refine xT ?_
            refine xB ?_
            cases soI hvK151
            exact oNi ⟨rfl, (by first | cbv | ((repeat (cbv; simp only [c129])); first | done | cbv))⟩
      · rintro _ rfl
        refine nT ?_
        refine AWp.rg hT hA {} (by cbv) (lb rfl) ?_
        exact nT ⟨_, (soI hsK154).symm, rfl, (by cbv)⟩
    · replace hsK154 := cF c77 hsK154
      refine AWp.cdF rfl (by first | rfl | simp only [c77, Bool.not_true, Bool.not_false, cond_true, cond_false]) ?_
      refine AWp.exit ?_
      refine xT ?_
      refine xT ?_
      refine exL hsK154 fun hx => ?_
      subst hx
      exact oxI ⟨rfl, _, _, hkK154, (by first | cbv | ((repeat (cbv; simp only [c77])); first | done | cbv))⟩
  · rintro _ ⟨v152, v153, hkK154, rfl⟩
    have h := (hK154 _ hkK154)
    refine xB ?_
    cases soI h
    exact ⟨rfl, rfl, rfl, lb rfl, _, rfl⟩

theorem H74aBw {A : Ar} (hA : A = Ar.std) {self81 : Int → Int → Int → (List (D × D)) → List D → List D → (Option (Int × List (D × D)))} (ih81 : ∀ {x1 : Int} {x2 : Int} {x3 : Int} {x4 : List (D × D)} {x5 : List D} {x6 : List D} {y1 : Int} {y2 : List (D × D)}, self81 x1 x2 x3 x4 x5 x6 = some (y1, y2) → ACall Try.prog 74 [(.ptr 1 0), (.d (.agg [(.int .u8 x1), (.int .i64 x2), (.int .i64 x3)]))] [(.map true [.int .u8, .int .i64, .int .i64] x4), (.cells [(.d (.list 4 x5)), (.d (.list 6 x6)), (.func 73 [] []), (.map 0)])] (.d (.int .i64 y1)) [(.map true [.int .u8, .int .i64, .int .i64] y2), (.cells [(.d (.list 4 x5)), (.d (.list 6 x6)), (.func 73 [] []), (.map 0)])]) {x1 : Int} {x2 : Int} {x3 : Int} {x4 : List (D × D)} {x5 : List D} {x6 : List D} {v27 : Int} {v28 : List (D × D)} (h : H74aB A self81 x1 x2 x3 x4 x5 x6 = some (v27, v28)) : ACall Try.prog 74 [(.ptr 1 0), (.d (.agg [(.int .u8 x1), (.int .i64 x2), (.int .i64 x3)]))] [(.map true [.int .u8, .int .i64, .int .i64] x4), (.cells [(.d (.list 4 x5)), (.d (.list 6 x6)), (.func 73 [] []), (.map 0)])] (.d (.int .i64 v27)) [(.map true [.int .u8, .int .i64, .int .i64] v28), (.cells [(.d (.list 4 x5)), (.d (.list 6 x6)), (.func 73 [] []), (.map 0)])] := by
  unfold H74aB at h
  refine ACall.enterT hT (fn := Try.f74) Try.func74 rfl (by decide) (by simp [Try.f74]) rfl rfl rfl rfl (lb rfl) ?_
  refine AWpT.seq ?_
  refine AWpT.of ?_
  refine AWp.rg hT hA { esc := [2] } (by cbv) (lb rfl) ?_
  refine nT ?_
  refine AWpT.seq ?_
  refine AWpT.of ?_
  refine AWp.seq ?_
  obtain ⟨⟨v11, v12⟩, hvK13, h⟩ := bindS h
  refine AWp.cutN [2, 3, 5, 6] [] 3 (lb rfl) (fun τ => τ = { env := [(2, (.ptr 2 0)), (3, (.lbox [(.d (.int .u8 x1)), (.d (.int .i64 x2)), (.d (.int .i64 x3))])), (5, (.d (.int .i64 v11))), (6, (.d (.bool v12)))], heap := [(.map true [.int .u8, .int .i64, .int .i64] x4), (.cells [(.d (.list 4 x5)), (.d (.list 6 x6)), (.func 73 [] []), (.map 0)]), (.cells [(.ptr 1 0)])], n := 41 }) ?_ ?_
  · skip
    obtain ⟨o10, e8, hvK13⟩ := bindS hvK13
    rcases o10 with _ | a7
    · have f9 := lkN e8
      refine AWp.rd hT hA { tk := [17] } rfl (by (repeat (cbv; simp only [f9])); first | done | cbv) (by kernel_rfl) (lb rfl) ?_
      cases soI hvK13
      exact oNi ⟨rfl, (by cbv)⟩
    · have f9 := lkS e8
      refine AWp.rd hT hA { tk := [17] } rfl (by (repeat (cbv; simp only [f9])); first | done | cbv) (by kernel_rfl) (lb rfl) ?_
      cases soI hvK13
      exact oNi ⟨rfl, (by cbv)⟩
  · rintro _ rfl
    refine nT ?_
    refine AWp.seq ?_
    refine AWp.rg hT hA {} (by cbv) (lb rfl) ?_
    refine nT ?_
    rcases tf v12 with c14 | c14
    · replace h := cT c14 h
      refine AWp.cdT rfl (by first | rfl | simp only [c14, Bool.not_true, Bool.not_false, cond_true, cond_false]) ?_
      refine AWp.seq ?_
      refine AWp.rg hT hA { tk := [5, 20] } (by (repeat (cbv; simp only [c14])); first | done | cbv) (lb rfl) ?_
      refine nT ?_
      refine AWp.ret ?_
      refine rT ?_
      cases soI h
      exact ⟨rfl, rfl, rfl, lb rfl, _, rfl⟩
    · replace h := cF c14 h
      refine AWp.cdF rfl (by first | rfl | simp only [c14, Bool.not_true, Bool.not_false, cond_true, cond_false]) ?_
      refine AWp.skip ?_
      refine nT ?_
      refine AWpT.seq ?_
      refine AWpT.of ?_
      refine AWp.rg hT hA { esc := [7] } (by (repeat (cbv; simp only [c14])); first | done | cbv) (lb rfl) ?_
      refine nT ?_
      refine AWpT.seq ?_
      refine AWpT.of ?_
      refine AWp.seq ?_
      refine AWp.region ?_
      obtain ⟨r16, e15, h⟩ := bindS h
      refine AOps.cc hT hA {} (by (repeat (cbv; simp only [c14])); first | done | cbv) (lb rfl) (H115cw hA e15) rfl (.inr rfl) rfl rfl rfl (lb rfl) rfl rfl ?_
      refine AOps.cd hT hA {} (by (repeat (cbv; simp only [c14])); first | done | cbv) (lb rfl) ?_
      refine nT ?_
      obtain ⟨v18, hvK19, h⟩ := bindS h
      refine AWp.cutN [2, 3, 7] [] 4 (lb rfl) (fun τ => τ = { env := [(2, (.ptr 2 0)), (3, (.lbox [(.d (.int .u8 x1)), (.d (.int .i64 x2)), (.d (.int .i64 x3))])), (7, (.ptr 3 0))], heap := [(.map true [.int .u8, .int .i64, .int .i64] x4), (.cells [(.d (.list 4 x5)), (.d (.list 6 x6)), (.func 73 [] []), (.map 0)]), (.cells [(.ptr 1 0)]), (.cells [(.d (.int .i64 v18))])], n := 41 }) ?_ ?_
      · skip
        rcases tf r16 with c17 | c17
        · replace hvK19 := cT c17 hvK19
          refine AWp.cdT rfl (by first | rfl | simp only [c14, c17, Bool.not_true, Bool.not_false, cond_true, cond_false]) ?_
          refine AWp.rg hT hA {} (by (repeat (cbv; simp only [c14, c17])); first | done | cbv) (lb rfl) ?_
          cases soI hvK19
          exact oNi ⟨rfl, (by first | cbv | ((repeat (cbv; simp only [c14, c17])); first | done | cbv))⟩
        · replace hvK19 := cF c17 hvK19
          refine AWp.cdF rfl (by first | rfl | simp only [c14, c17, Bool.not_true, Bool.not_false, cond_true, cond_false]) ?_
          refine AWp.skip ?_
          cases soI hvK19
          exact oNi ⟨rfl, (by first | cbv | ((repeat (cbv; simp only [c14, c17])); first | done | cbv))⟩
      · rintro _ rfl
        refine nT ?_
        refine AWpT.seq ?_
        refine AWpT.seq ?_
        refine AWpT.of ?_
        refine AWp.region ?_
        obtain ⟨⟨r21, r22, r23⟩, e20, h⟩ := bindS h
        refine AOps.cc hT hA {} (by cbv) (lb rfl) (H116hw hA e20) rfl (.inl rfl) rfl rfl rfl (lb rfl) rfl rfl ?_
        refine AOps.cd hT hA {} (by cbv) (lb rfl) ?_
        refine nT ?_
        refine AWpT.block ?_
        obtain ⟨⟨r25, r26⟩, e24, h⟩ := bindS h
        refine AWpT.rangeFunc [2, 7] (H' := [(.map true [.int .u8, .int .i64, .int .i64] r25), (.cells [(.d (.list 4 x5)), (.d (.list 6 x6)), (.func 73 [] []), (.map 0)]), (.cells [(.ptr 1 0)]), (.cells [(.d (.int .i64 r26))]), (.cells [(.ptr 1 0)]), (.cells [(.d (.int .u8 r21)), (.d (.int .i64 r22)), (.d (.int .i64 r23))]), (.loop { st := .ready, pending := none, env := [(2, (.ptr 2 0)), (7, (.ptr 3 0))], n := 41, params := #[27, 28], assign := HA74r0, body := HB74r0 })]) rfl (lb rfl) rfl rfl rfl (H125dw hA ih81 e24) (st := .ready) (by decide) rfl ?_
        refine bN ?_
        refine nB ?_
        refine nT ?_
        refine AWpT.of ?_
        refine AWp.seq ?_
        refine AWp.rd hT hA {} rfl (by cbv) (by kernel_rfl) (lb rfl) ?_
        refine nT ?_
        refine AWp.seq ?_
        refine AWp.rg hT hA { tk := [40] } (by cbv) (lb rfl) ?_
        refine nT ?_
        refine AWp.ret ?_
        cases soI h
        exact ⟨rfl, rfl, rfl, lb rfl, _, rfl⟩

theorem H74aRw {A : Ar} (hA : A = Ar.std) : ∀ (n : Nat) {x1 : Int} {x2 : Int} {x3 : Int} {x4 : List (D × D)} {x5 : List D} {x6 : List D} {v27 : Int} {v28 : List (D × D)}, H74aR A n x1 x2 x3 x4 x5 x6 = some (v27, v28) → ACall Try.prog 74 [(.ptr 1 0), (.d (.agg [(.int .u8 x1), (.int .i64 x2), (.int .i64 x3)]))] [(.map true [.int .u8, .int .i64, .int .i64] x4), (.cells [(.d (.list 4 x5)), (.d (.list 6 x6)), (.func 73 [] []), (.map 0)])] (.d (.int .i64 v27)) [(.map true [.int .u8, .int .i64, .int .i64] v28), (.cells [(.d (.list 4 x5)), (.d (.list 6 x6)), (.func 73 [] []), (.map 0)])]
  | 0, _, _, _, _, _, _, _, _, h => by cases h
  | n + 1, _, _, _, _, _, _, _, _, h => H74aBw hA (fun h => H74aRw hA n h) h

theorem H74aw {A : Ar} (hA : A = Ar.std) {x1 : Int} {x2 : Int} {x3 : Int} {x4 : List (D × D)} {x5 : List D} {x6 : List D} {v27 : Int} {v28 : List (D × D)} (h : H74a A x1 x2 x3 x4 x5 x6 = some (v27, v28)) : ACall Try.prog 74 [(.ptr 1 0), (.d (.agg [(.int .u8 x1), (.int .i64 x2), (.int .i64 x3)]))] [(.map true [.int .u8, .int .i64, .int .i64] x4), (.cells [(.d (.list 4 x5)), (.d (.list 6 x6)), (.func 73 [] []), (.map 0)])] (.d (.int .i64 v27)) [(.map true [.int .u8, .int .i64, .int .i64] v28), (.cells [(.d (.list 4 x5)), (.d (.list 6 x6)), (.func 73 [] []), (.map 0)])] := H74aRw hA fuel h

theorem H28w {A : Ar} (hA : A = Ar.std) {x1 : List D} {x2 : List D} {v12 : Bool} {v13 : Int} (h : H28 A x1 x2 = some (v12, v13)) : ACall Try.prog 28 [(.d (.list 4 x1)), (.d (.list 6 x2))] [] (.tuple [(.d (.bool v12)), (.d (.int .i64 v13))]) [] := by
  unfold H28 at h
  refine ACall.enter hT (fn := Try.f28) Try.func28 rfl (by decide) (by simp [Try.f28]) rfl rfl rfl rfl (lb rfl) ?_
  refine AWp.seq ?_
  refine AWp.rg hT hA {} (by cbv) (lb rfl) ?_
  refine nT ?_
  refine AWp.seq ?_
  refine AWp.seq ?_
  refine AWp.region ?_
  obtain ⟨r4, e3, h⟩ := bindS h
  refine AOps.cc hT hA {} (by cbv) (lb rfl) (H71w hA e3) rfl (.inl rfl) rfl rfl rfl (lb rfl) rfl rfl ?_
  refine AOps.cd hT hA {} (by cbv) (lb rfl) ?_
  refine nT ?_
  refine AWp.seq ?_
  refine AWp.rg hT hA {} (by cbv) (lb rfl) ?_
  refine nT ?_
  rcases tf (A.zeq r4 0) with c5 | c5
  · replace h := cT c5 h
    refine AWp.cdF rfl (by first | rfl | simp only [c5, Bool.not_true, Bool.not_false, cond_true, cond_false]) ?_
    refine AWp.skip ?_
    refine nT ?_
    refine AWp.seq ?_
    refine AWp.region ?_
    obtain ⟨⟨r7, r8⟩, e6, h⟩ := bindS h
    refine AOps.cc hT hA {} (by (repeat (cbv; simp only [c5])); first | done | cbv) (lb rfl) (H72aw hA e6) rfl (.inl rfl) rfl rfl rfl (lb rfl) rfl rfl ?_
    obtain ⟨⟨r10, r11⟩, e9, h⟩ := bindS h
    refine AOps.cc hT hA {} (by (repeat (cbv; simp only [c5])); first | done | cbv) (lb rfl) (H74aw hA e9) rfl (.inl rfl) rfl rfl rfl (lb rfl) rfl rfl ?_
    refine AOps.cd hT hA {} (by (repeat (cbv; simp only [c5])); first | done | cbv) (lb rfl) ?_
    refine nT ?_
    refine AWp.ret ?_
    cases soI h
    exact ⟨rfl, rfl, rfl, lb rfl, _, rfl⟩
  · replace h := cF c5 h
    refine AWp.cdT rfl (by first | rfl | simp only [c5, Bool.not_true, Bool.not_false, cond_true, cond_false]) ?_
    refine AWp.seq ?_
    refine AWp.rg hT hA {} (by (repeat (cbv; simp only [c5])); first | done | cbv) (lb rfl) ?_
    refine nT ?_
    refine AWp.ret ?_
    refine rT ?_
    cases soI h
    exact ⟨rfl, rfl, rfl, lb rfl, _, rfl⟩

theorem H32w {A : Ar} (hA : A = Ar.std) {x1 : List D} {x2 : List D} {v145 : List D} {v146 : Int} (h : H32 A x1 x2 = some (v145, v146)) : ACall Try.prog 32 [(.d (.list 4 x1)), (.d (.list 6 x2))] [] (.tuple [(.d (.list 6 v145)), (.d (.int .i64 v146))]) [] := by
  unfold H32 at h
  refine ACall.enter hT (fn := Try.f32) Try.func32 rfl (by decide) (by simp [Try.f32]) rfl rfl rfl rfl (lb rfl) ?_
  refine AWp.seq ?_
  refine AWp.rg hT hA {} (by cbv) (lb rfl) ?_
  refine nT ?_
  refine AWp.seq ?_
  refine AWp.block ?_
  refine AWp.seq ?_
  refine AWp.region ?_
  obtain ⟨r4, e3, h⟩ := bindS h
  refine AOps.cc hT hA {} (by cbv) (lb rfl) (H58w hA e3) rfl (.inl rfl) rfl rfl rfl (lb rfl) rfl rfl ?_
  refine AOps.cd hT hA {} (by cbv) (lb rfl) ?_
  refine nT ?_
  rcases tf r4 with c5 | c5
  · replace h := cT c5 h
    refine AWp.cdF rfl (by first | rfl | simp only [c5, Bool.not_true, Bool.not_false, cond_true, cond_false]) ?_
    refine AWp.seq ?_
    refine AWp.rg hT hA {} (by (repeat (cbv; simp only [c5])); first | done | cbv) (lb rfl) ?_
    refine nT ?_
    rcases tf (A.zlt 8 (A.len x2)) with c6 | c6
    · replace h := cT c6 h
      refine AWp.cdT rfl (by first | rfl | simp only [c5, c6, Bool.not_true, Bool.not_false, cond_true, cond_false]) ?_
      refine AWp.seq ?_
      refine AWp.rg hT hA {} (by (repeat (cbv; simp only [c5, c6])); first | done | cbv) (lb rfl) ?_
      refine nT ?_
      refine AWp.ret ?_
      refine rB ?_
      refine rT ?_
      cases soI h
      exact ⟨rfl, rfl, rfl, lb rfl, _, rfl⟩
    · replace h := cF c6 h
      refine AWp.cdF rfl (by first | rfl | simp only [c5, c6, Bool.not_true, Bool.not_false, cond_true, cond_false]) ?_
      refine AWp.skip ?_
      refine nB ?_
      refine nT ?_
      refine AWp.seq ?_
      refine AWp.rg hT hA {} (by (repeat (cbv; simp only [c5, c6])); first | done | cbv) (lb rfl) ?_
      refine nT ?_
      refine AWp.seq ?_
      refine AWp.rg hT hA {} (by (repeat (cbv; simp only [c5, c6])); first | done | cbv) (lb rfl) ?_
      refine nT ?_
      refine AWp.seq ?_
      refine AWp.seq ?_
      refine AWp.rg hT hA {} (by (repeat (cbv; simp only [c5, c6])); first | done | cbv) (lb rfl) ?_
      refine nT ?_
      refine AWp.block ?_
      obtain ⟨xK144, hxK144, K144, hK144, hkK144⟩ := bindK h
      refine AWp.cutX 1 [7] [] 0 (lb rfl) (fun τ => ∃ v143, K144 (.inl v143) = some (v145, v146) ∧ τ = { env := [(7, (.own 6 v143))], heap := [], n := 110 }) ?_ ?_
      · skip
        refine AWp.iter hxK144 [0, 6, 7, 18, 19, 20] [] 0 (lb rfl) (fun (v73, v74, v75, v76) => { env := [(0, (.d (.list 4 x1))), (6, (.lbox [(.d (.int .i64 v73)), (.d (.int .i64 v74))])), (7, (.own 6 v75)), (18, (.d (.list 6 x2))), (19, (.d (.int .i64 (A.len x2)))), (20, (.d (.int .i64 v76)))], heap := [], n := 110 }) ⟨rfl, (by first | cbv | ((repeat (cbv; simp only [c5, c6])); first | done | cbv))⟩ ?_
        rintro ⟨v73, v74, v75, v76⟩ eK144 hsK144
        dsimp only [H32L0] at hsK144
        refine AWp.seq ?_
        refine AWp.rg hT hA {} (by cbv) (lb rfl) ?_
        refine nT ?_
        refine AWp.seq ?_
        rcases tf (A.zlt v76 (A.len x2)) with c77 | c77
        · replace hsK144 := cT c77 hsK144
          refine AWp.cdT rfl (by first | rfl | simp only [c77, Bool.not_true, Bool.not_false, cond_true, cond_false]) ?_
          refine AWp.skip ?_
          refine nT ?_
          refine AWp.seq ?_
          refine AWp.block ?_
          refine AWp.seq ?_
          obtain ⟨⟨a78, a79, a80, a81, a82, a83⟩, e84, hsK144⟩ := bindS hsK144
          obtain ⟨f85, f86⟩ := gtI e84
          refine AWp.rg hT hA { tk := [24] } (by (repeat (cbv; simp only [c77, f85, f86])); first | done | cbv) (lb rfl) ?_
          refine nT ?_
          refine AWp.seq ?_
          refine AWp.seq ?_
          obtain ⟨v103, hvK104, hsK144⟩ := bindS hsK144
          refine AWp.cutN [0, 6, 7, 8, 9, 18, 19, 20, 71] [] 0 (lb rfl) (fun τ => τ = { env := [(0, (.d (.list 4 x1))), (6, (.lbox [(.d (.int .i64 v73)), (.d (.int .i64 v74))])), (7, (.own 6 v75)), (8, (.d (.int .i64 v76))), (9, (.lbox [(.d (.int .i64 a78)), (.d (.int .i64 a79)), (.d (.int .i64 a80)), (.d (.int .i64 a81)), (.d (.int .i64 a82)), (.d (.int .i64 a83))])), (18, (.d (.list 6 x2))), (19, (.d (.int .i64 (A.len x2)))), (20, (.d (.int .i64 v76))), (71, (.d (.bool v103)))], heap := [], n := 110 }) ?_ ?_
          · skip
            refine AWp.regionDraw rfl (lb rfl) ?_
            rcases tf (A.zeq a81 0) with c87 | c87
            · replace hvK104 := cT c87 hvK104
              rcases tf (A.zeq a82 0) with c88 | c88
              · replace hvK104 := cT c88 hvK104
                rcases tf (A.zeq a83 0) with c89 | c89
                · replace hvK104 := cT c89 hvK104
                  rcases tf (A.zlt a79 0) with c90 | c90
                  · replace hvK104 := cT c90 hvK104
                    refine DOps.cd hT hA {} rfl (by (repeat (cbv; simp only [c77, c87, c88, c89, c90])); first | done | cbv) (by kernel_rfl) ?_
                    cases soI hvK104
                    exact oNi ⟨rfl, (by first | cbv | ((repeat (cbv; simp only [c77, c87, c88, c89, c90])); first | done | cbv))⟩
                  · replace hvK104 := cF c90 hvK104
                    rcases tf (A.zle (A.len x1) a79) with c91 | c91
                    · replace hvK104 := cT c91 hvK104
                      refine DOps.cd hT hA {} rfl (by (repeat (cbv; simp only [c77, c87, c88, c89, c90, c91])); first | done | cbv) (by kernel_rfl) ?_
                      cases soI hvK104
                      exact oNi ⟨rfl, (by first | cbv | ((repeat (cbv; simp only [c77, c87, c88, c89, c90, c91])); first | done | cbv))⟩
                    · replace hvK104 := cF c91 hvK104
                      rcases tf (A.zlt a80 0) with c92 | c92
                      · replace hvK104 := cT c92 hvK104
                        refine DOps.cd hT hA {} rfl (by (repeat (cbv; simp only [c77, c87, c88, c89, c90, c91, c92])); first | done | cbv) (by kernel_rfl) ?_
                        cases soI hvK104
                        exact oNi ⟨rfl, (by first | cbv | ((repeat (cbv; simp only [c77, c87, c88, c89, c90, c91, c92])); first | done | cbv))⟩
                      · replace hvK104 := cF c92 hvK104
                        obtain ⟨⟨a93, a94, a95, a96⟩, e97, hvK104⟩ := bindS hvK104
                        obtain ⟨f98, f99⟩ := gtI e97
                        rcases tf (A.zle a94 a80) with c100 | c100
                        · replace hvK104 := cT c100 hvK104
                          refine DOps.cd hT hA {} rfl (by (repeat (cbv; simp only [c77, c87, c88, c89, c90, c91, c92, c100, f98, f99])); first | done | cbv) (by kernel_rfl) ?_
                          cases soI hvK104
                          exact oNi ⟨rfl, (by first | cbv | ((repeat (cbv; simp only [c77, c87, c88, c89, c90, c91, c92, c100])); first | done | cbv))⟩
                        · replace hvK104 := cF c100 hvK104
                          obtain ⟨r102, e101, hvK104⟩ := bindS hvK104
                          refine DOps.c0 hT hA {} rfl (by (repeat (cbv; simp only [c77, c87, c88, c89, c90, c91, c92, c100, f98, f99])); first | done | cbv) (H77w hA e101) rfl rfl (lb rfl) rfl rfl ?_
                          refine DOps.cd hT hA {} rfl (by (repeat (cbv; simp only [c77, c87, c88, c89, c90, c91, c92, c100, f98, f99])); first | done | cbv) (by kernel_rfl) ?_
                          cases soI hvK104
                          exact oNi ⟨rfl, (by first | cbv | ((repeat (cbv; simp only [c77, c87, c88, c89, c90, c91, c92, c100])); first | done | cbv))⟩
                · replace hvK104 := cF c89 hvK104
                  refine DOps.cd hT hA {} rfl (by (repeat (cbv; simp only [c77, c87, c88, c89])); first | done | cbv) (by kernel_rfl) ?_
                  cases soI hvK104
                  exact oNi ⟨rfl, (by first | cbv | ((repeat (cbv; simp only [c77, c87, c88, c89])); first | done | cbv))⟩
              · replace hvK104 := cF c88 hvK104
                refine DOps.cd hT hA {} rfl (by (repeat (cbv; simp only [c77, c87, c88])); first | done | cbv) (by kernel_rfl) ?_
                cases soI hvK104
                exact oNi ⟨rfl, (by first | cbv | ((repeat (cbv; simp only [c77, c87, c88])); first | done | cbv))⟩
            · replace hvK104 := cF c87 hvK104
              refine DOps.cd hT hA {} rfl (by (repeat (cbv; simp only [c77, c87])); first | done | cbv) (by kernel_rfl) ?_
              cases soI hvK104
              exact oNi ⟨rfl, (by first | cbv | ((repeat (cbv; simp only [c77, c87])); first | done | cbv))⟩
          · rintro _ rfl
            refine nT ?_
            rcases tf v103 with c105 | c105
            · replace hsK144 := cT c105 hsK144
              refine AWp.cdT rfl (by first | rfl | simp only [c105, Bool.not_true, Bool.not_false, cond_true, cond_false]) ?_
              refine AWp.seq ?_
              refine AWp.rg hT hA {} (by (repeat (cbv; simp only [c105])); first | done | cbv) (lb rfl) ?_
              refine nT ?_
              refine AWp.ret ?_
              refine rT ?_
              refine rB ?_
              refine rT ?_
              refine rT ?_
              refine exL hsK144 fun hx => ?_
              subst hx
              refine oxR ?_
              replace hkK144 := (eR (hK144 _ hkK144))
              refine rB ?_
              refine rT ?_
              cases soI hkK144
              exact ⟨rfl, rfl, rfl, lb rfl, _, rfl⟩
            · replace hsK144 := cF c105 hsK144
              refine AWp.cdF rfl (by first | rfl | simp only [c105, Bool.not_true, Bool.not_false, cond_true, cond_false]) ?_
              refine AWp.skip ?_
              refine nT ?_
              refine AWp.seq ?_
              obtain ⟨v133, hvK134, hsK144⟩ := bindS hsK144
              refine AWp.cutN [0, 6, 7, 8, 9, 18, 19, 20] [] 0 (lb rfl) (fun τ => τ = { env := [(0, (.d (.list 4 x1))), (6, (.lbox [(.d (.int .i64 v73)), (.d (.int .i64 v74))])), (7, (.own 6 v75)), (8, (.d (.int .i64 v76))), (9, (.lbox [(.d (.int .i64 a78)), (.d (.int .i64 a79)), (.d (.int .i64 a80)), (.d (.int .i64 v133)), (.d (.int .i64 a82)), (.d (.int .i64 a83))])), (18, (.d (.list 6 x2))), (19, (.d (.int .i64 (A.len x2)))), (20, (.d (.int .i64 v76)))], heap := [], n := 110 }) ?_ ?_
              · skip
                obtain ⟨⟨a106, a107, a108, a109⟩, e110, hvK134⟩ := bindS hvK134
                obtain ⟨f111, f112⟩ := gtI e110
                rcases tf (A.zeq a79 0) with c113 | c113
                · replace hvK134 := cT c113 hvK134
                  obtain ⟨f114a, f114b, f114c⟩ := ixF hA (n := 2) c113 (by decide)
                  have f112f114 := f112
                  rw [f114c] at f112f114
                  obtain ⟨a115, e116, hvK134⟩ := bindS hvK134
                  obtain ⟨f117, f118⟩ := gtI e116
                  obtain ⟨a119, e120, hvK134⟩ := bindS hvK134
                  obtain ⟨f121, f122⟩ := gtI e120
                  refine AWp.rd hT hA {} rfl (by (repeat (cbv; simp only [c105, f111, f112, f114a, f114b, f114c, f112f114, f117, f118, f121, f122])); first | done | cbv) (by kernel_rfl) (lb rfl) ?_
                  cases soI hvK134
                  exact oNi ⟨rfl, (by first | cbv | ((repeat (cbv; simp only [c105])); first | done | cbv))⟩
                · replace hvK134 := cF c113 hvK134
                  rcases tf (A.zeq a79 1) with c123 | c123
                  · replace hvK134 := cT c123 hvK134
                    obtain ⟨f124a, f124b, f124c⟩ := ixF hA (n := 2) c123 (by decide)
                    have f112f124 := f112
                    rw [f124c] at f112f124
                    obtain ⟨a125, e126, hvK134⟩ := bindS hvK134
                    obtain ⟨f127, f128⟩ := gtI e126
                    obtain ⟨a129, e130, hvK134⟩ := bindS hvK134
                    obtain ⟨f131, f132⟩ := gtI e130
                    refine AWp.rd hT hA {} rfl (by (repeat (cbv; simp only [c105, f111, f112, f124a, f124b, f124c, f112f124, f127, f128, f131, f132])); first | done | cbv) (by kernel_rfl) (lb rfl) ?_
                    cases soI hvK134
                    exact oNi ⟨rfl, (by first | cbv | ((repeat (cbv; simp only [c105])); first | done | cbv))⟩
                  · replace hvK134 := cF c123 hvK134
                    cases hvK134
              · rintro _ rfl
                refine nT ?_
                refine AWp.seq ?_
                refine AWp.region ?_
                obtain ⟨⟨r136, r137, r138⟩, e135, hsK144⟩ := bindS hsK144
                refine AOps.cc hT hA { tk := [94] } (by cbv) (lb rfl) (H78aw hA e135) rfl (.inl rfl) rfl rfl rfl (lb rfl) rfl rfl ?_
                refine AOps.cd hT hA { tk := [94] } (by cbv) (lb rfl) ?_
                refine nT ?_
                refine AWp.seq ?_
                refine AWp.rg hT hA {} (by cbv) (lb rfl) ?_
                refine nT ?_
                obtain ⟨l139, e140, hsK144⟩ := bindS hsK144
                obtain ⟨f141, f142⟩ := apI e140
                refine AWp.rg hT hA { tk := [7, 107] } (by (repeat (cbv; simp only [f141, f142])); first | done | cbv) (lb rfl) ?_
                refine nB ?_
                refine nT ?_
                refine AWp.rg hT hA {} (by cbv) (lb rfl) ?_
                exact nT ⟨_, (soI hsK144).symm, rfl, (by cbv)⟩
        · replace hsK144 := cF c77 hsK144
          refine AWp.cdF rfl (by first | rfl | simp only [c77, Bool.not_true, Bool.not_false, cond_true, cond_false]) ?_
          refine AWp.exit ?_
          refine xT ?_
          refine xT ?_
          refine exL hsK144 fun hx => ?_
          subst hx
          exact oxI ⟨rfl, _, hkK144, (by first | cbv | ((repeat (cbv; simp only [c77])); first | done | cbv))⟩
      · rintro _ ⟨v143, hkK144, rfl⟩
        have h := (eL (hK144 _ hkK144))
        refine xB ?_
        refine nT ?_
        refine AWp.seq ?_
        refine AWp.rg hT hA {} (by cbv) (lb rfl) ?_
        refine nT ?_
        refine AWp.ret ?_
        cases soI h
        exact ⟨rfl, rfl, rfl, lb rfl, _, rfl⟩
  · replace h := cF c5 h
    refine AWp.cdT rfl (by first | rfl | simp only [c5, Bool.not_true, Bool.not_false, cond_true, cond_false]) ?_
    refine AWp.seq ?_
    refine AWp.rg hT hA {} (by (repeat (cbv; simp only [c5])); first | done | cbv) (lb rfl) ?_
    refine nT ?_
    refine AWp.ret ?_
    refine rB ?_
    refine rT ?_
    cases soI h
    exact ⟨rfl, rfl, rfl, lb rfl, _, rfl⟩

theorem H33w {A : Ar} (hA : A = Ar.std) {x1 : List D} {x2 : List D} {v176 : List D} {v177 : Int} (h : H33 A x1 x2 = some (v176, v177)) : ACall Try.prog 33 [(.d (.list 4 x1)), (.d (.list 6 x2))] [] (.tuple [(.d (.list 6 v176)), (.d (.int .i64 v177))]) [] := by
  unfold H33 at h
  refine ACall.enter hT (fn := Try.f33) Try.func33 rfl (by decide) (by simp [Try.f33]) rfl rfl rfl rfl (lb rfl) ?_
  refine AWp.seq ?_
  refine AWp.rg hT hA {} (by cbv) (lb rfl) ?_
  refine nT ?_
  refine AWp.seq ?_
  refine AWp.seq ?_
  refine AWp.region ?_
  obtain ⟨r4, e3, h⟩ := bindS h
  refine AOps.cc hT hA {} (by cbv) (lb rfl) (H60w hA e3) rfl (.inl rfl) rfl rfl rfl (lb rfl) rfl rfl ?_
  refine AOps.cd hT hA {} (by cbv) (lb rfl) ?_
  refine nT ?_
  rcases tf r4 with c5 | c5
  · replace h := cT c5 h
    refine AWp.cdF rfl (by first | rfl | simp only [c5, Bool.not_true, Bool.not_false, cond_true, cond_false]) ?_
    refine AWp.skip ?_
    refine nT ?_
    refine AWp.seq ?_
    refine AWp.seq ?_
    refine AWp.rg hT hA {} (by (repeat (cbv; simp only [c5])); first | done | cbv) (lb rfl) ?_
    refine nT ?_
    rcases tf (A.zlt 8 (A.len x2)) with c6 | c6
    · replace h := cT c6 h
      refine AWp.cdT rfl (by first | rfl | simp only [c5, c6, Bool.not_true, Bool.not_false, cond_true, cond_false]) ?_
      refine AWp.seq ?_
      refine AWp.rg hT hA {} (by (repeat (cbv; simp only [c5, c6])); first | done | cbv) (lb rfl) ?_
      refine nT ?_
      refine AWp.ret ?_
      refine rT ?_
      cases soI h
      exact ⟨rfl, rfl, rfl, lb rfl, _, rfl⟩
    · replace h := cF c6 h
      refine AWp.cdF rfl (by first | rfl | simp only [c5, c6, Bool.not_true, Bool.not_false, cond_true, cond_false]) ?_
      refine AWp.skip ?_
      refine nT ?_
      refine AWp.seq ?_
      obtain ⟨_, e10, h⟩ := bindS h
      have f7 := ckI e10
      obtain ⟨_, e11, h⟩ := bindS h
      have f8 := ckI e11
      obtain ⟨_, e12, h⟩ := bindS h
      have f9 := ckI e12
      refine AWp.rg hT hA {} (by (repeat (cbv; simp only [c5, c6, f7, f8, f9])); first | done | cbv) (lb rfl) ?_
      refine nT ?_
      refine AWp.seq ?_
      refine AWp.rg hT hA {} (by (repeat (cbv; simp only [c5, c6])); first | done | cbv) (lb rfl) ?_
      refine nT ?_
      refine AWp.seq ?_
      refine AWp.seq ?_
      refine AWp.rg hT hA {} (by (repeat (cbv; simp only [c5, c6])); first | done | cbv) (lb rfl) ?_
      refine nT ?_
      refine AWp.block ?_
      obtain ⟨xK175, hxK175, K175, hK175, hkK175⟩ := bindK h
      refine AWp.cutX 0 [7] [] 1 (lb rfl) (fun τ => ∃ v172 v173, K175 (.inl (v172, v173)) = some (v176, v177) ∧ τ = { env := [(7, (.own 6 v172))], heap := [(.arr 1 v173)], n := 125 }) ?_ ?_
      · skip
        refine AWp.iter hxK175 [0, 1, 6, 7, 8] [] 1 (lb rfl) (fun (v91, v92, v93) => { env := [(0, (.d (.list 4 x1))), (1, (.d (.list 6 x2))), (6, (.mref 0 1 0 (A.len x1))), (7, (.own 6 v91)), (8, (.d (.int .i64 v92)))], heap := [(.arr 1 v93)], n := 125 }) ⟨rfl, (by first | cbv | ((repeat (cbv; simp only [c5, c6])); first | done | cbv))⟩ ?_
        rintro ⟨v91, v92, v93⟩ eK175 hsK175
        dsimp only [H33L0] at hsK175
        refine AWp.seq ?_
        refine AWp.seq ?_
        refine AWp.rg hT hA {} (by cbv) (lb rfl) ?_
        refine nT ?_
        rcases tf (A.zlt v92 (A.len x2)) with c94 | c94
        · replace hsK175 := cT c94 hsK175
          refine AWp.cdT rfl (by first | rfl | simp only [c94, Bool.not_true, Bool.not_false, cond_true, cond_false]) ?_
          refine AWp.skip ?_
          refine nT ?_
          refine AWp.seq ?_
          refine AWp.block ?_
          refine AWp.seq ?_
          obtain ⟨⟨a95, a96, a97, a98, a99, a100⟩, e101, hsK175⟩ := bindS hsK175
          obtain ⟨f102, f103⟩ := gtI e101
          refine AWp.rg hT hA { tk := [29] } (by (repeat (cbv; simp only [c94, f102, f103])); first | done | cbv) (lb rfl) ?_
          refine nT ?_
          refine AWp.seq ?_
          refine AWp.seq ?_
          obtain ⟨v122, hvK123, hsK175⟩ := bindS hsK175
          refine AWp.cutN [0, 1, 6, 7, 8, 9, 75] [] 1 (lb rfl) (fun τ => τ = { env := [(0, (.d (.list 4 x1))), (1, (.d (.list 6 x2))), (6, (.mref 0 1 0 (A.len x1))), (7, (.own 6 v91)), (8, (.d (.int .i64 v92))), (9, (.lbox [(.d (.int .i64 a95)), (.d (.int .i64 a96)), (.d (.int .i64 a97)), (.d (.int .i64 a98)), (.d (.int .i64 a99)), (.d (.int .i64 a100))])), (75, (.d (.bool v122)))], heap := [(.arr 1 v93)], n := 125 }) ?_ ?_
          · skip
            refine AWp.regionDraw rfl (lb rfl) ?_
            obtain ⟨r105, e104, hvK123⟩ := bindS hvK123
            refine DOps.c0 hT hA {} rfl (by (repeat (cbv; simp only [c94])); first | done | cbv) (H67w hA e104) rfl rfl (lb rfl) rfl rfl ?_
            rcases tf r105 with c106 | c106
            · replace hvK123 := cT c106 hvK123
              obtain ⟨r108, e107, hvK123⟩ := bindS hvK123
              refine DOps.c0 hT hA {} rfl (by (repeat (cbv; simp only [c94, c106])); first | done | cbv) (H67w hA e107) rfl rfl (lb rfl) rfl rfl ?_
              rcases tf r108 with c109 | c109
              · replace hvK123 := cT c109 hvK123
                obtain ⟨⟨a110, a111, a112, a113⟩, e114, hvK123⟩ := bindS hvK123
                obtain ⟨f115, f116⟩ := gtI e114
                obtain ⟨r118, e117, hvK123⟩ := bindS hvK123
                refine DOps.c0 hT hA {} rfl (by (repeat (cbv; simp only [c94, c106, c109, f115, f116])); first | done | cbv) (H67w hA e117) rfl rfl (lb rfl) rfl rfl ?_
                rcases tf r118 with c119 | c119
                · replace hvK123 := cT c119 hvK123
                  rcases tf (A.zeq a98 0) with c120 | c120
                  · replace hvK123 := cT c120 hvK123
                    rcases tf (A.zeq a99 0) with c121 | c121
                    · replace hvK123 := cT c121 hvK123
                      refine DOps.cd hT hA {} rfl (by (repeat (cbv; simp only [c94, c106, c109, c119, c120, c121, f115, f116])); first | done | cbv) (by kernel_rfl) ?_
                      cases soI hvK123
                      exact oNi ⟨rfl, (by first | cbv | ((repeat (cbv; simp only [c94, c106, c109, c119, c120, c121])); first | done | cbv))⟩
                    · replace hvK123 := cF c121 hvK123
                      refine DOps.cd hT hA {} rfl (by (repeat (cbv; simp only [c94, c106, c109, c119, c120, c121, f115, f116])); first | done | cbv) (by kernel_rfl) ?_
                      cases soI hvK123
                      exact oNi ⟨rfl, (by first | cbv | ((repeat (cbv; simp only [c94, c106, c109, c119, c120, c121])); first | done | cbv))⟩
                  · replace hvK123 := cF c120 hvK123
                    refine DOps.cd hT hA {} rfl (by (repeat (cbv; simp only [c94, c106, c109, c119, c120, f115, f116])); first | done | cbv) (by kernel_rfl) ?_
                    cases soI hvK123
                    exact oNi ⟨rfl, (by first | cbv | ((repeat (cbv; simp only [c94, c106, c109, c119, c120])); first | done | cbv))⟩
                · replace hvK123 := cF c119 hvK123
                  refine DOps.cd hT hA {} rfl (by (repeat (cbv; simp only [c94, c106, c109, c119, f115, f116])); first | done | cbv) (by kernel_rfl) ?_
                  cases soI hvK123
                  exact oNi ⟨rfl, (by first | cbv | ((repeat (cbv; simp only [c94, c106, c109, c119])); first | done | cbv))⟩
              · replace hvK123 := cF c109 hvK123
                refine DOps.cd hT hA {} rfl (by (repeat (cbv; simp only [c94, c106, c109])); first | done | cbv) (by kernel_rfl) ?_
                cases soI hvK123
                exact oNi ⟨rfl, (by first | cbv | ((repeat (cbv; simp only [c94, c106, c109])); first | done | cbv))⟩
            · replace hvK123 := cF c106 hvK123
              refine DOps.cd hT hA {} rfl (by (repeat (cbv; simp only [c94, c106])); first | done | cbv) (by kernel_rfl) ?_
              cases soI hvK123
              exact oNi ⟨rfl, (by first | cbv | ((repeat (cbv; simp only [c94, c106])); first | done | cbv))⟩
          · rintro _ rfl
            refine nT ?_
            rcases tf v122 with c124 | c124
            · replace hsK175 := cT c124 hsK175
              refine AWp.cdT rfl (by first | rfl | simp only [c124, Bool.not_true, Bool.not_false, cond_true, cond_false]) ?_
              refine AWp.seq ?_
              refine AWp.rg hT hA {} (by (repeat (cbv; simp only [c124])); first | done | cbv) (lb rfl) ?_
              refine nT ?_
              refine AWp.ret ?_
              refine rT ?_
              refine rB ?_
              refine rT ?_
              refine rT ?_
              refine exL hsK175 fun hx => ?_
              subst hx
              refine oxR ?_
              replace hkK175 := (eR (hK175 _ hkK175))
              refine rB ?_
              refine rT ?_
              cases soI hkK175
              exact ⟨rfl, rfl, rfl, lb rfl, _, rfl⟩
            · replace hsK175 := cF c124 hsK175
              refine AWp.cdF rfl (by first | rfl | simp only [c124, Bool.not_true, Bool.not_false, cond_true, cond_false]) ?_
              refine AWp.skip ?_
              refine nT ?_
              refine AWp.seq ?_
              obtain ⟨⟨a125, a126, a127, a128⟩, e129, hsK175⟩ := bindS hsK175
              obtain ⟨f130, f131⟩ := gtI e129
              refine AWp.rg hT hA { tk := [80] } (by (repeat (cbv; simp only [c124, f130, f131])); first | done | cbv) (lb rfl) ?_
              refine nT ?_
              refine AWp.seq ?_
              obtain ⟨_, e132, hsK175⟩ := bindS hsK175
              have f134 := ckI e132
              obtain ⟨_, e133, hsK175⟩ := bindS hsK175
              have f135 := ckI e133
              obtain ⟨a136, e137, hsK175⟩ := bindS hsK175
              have f138 := gcI e137
              obtain ⟨a139, e140, hsK175⟩ := bindS hsK175
              obtain ⟨f141, f142⟩ := gtI e140
              obtain ⟨a143, e144, hsK175⟩ := bindS hsK175
              obtain ⟨f145, f146⟩ := gtI e144
              refine AWp.rd hT hA {} rfl (by (repeat (cbv; simp only [c124, f134, f135, f138, f141, f142, f145, f146])); first | done | cbv) (by kernel_rfl) (lb rfl) ?_
              refine nT ?_
              refine AWp.seq ?_
              obtain ⟨_, e147, hsK175⟩ := bindS hsK175
              have f149 := ckI e147
              obtain ⟨_, e148, hsK175⟩ := bindS hsK175
              have f150 := ckI e148
              obtain ⟨a151, e152, hsK175⟩ := bindS hsK175
              have f153 := gcI e152
              obtain ⟨a154, e155, hsK175⟩ := bindS hsK175
              obtain ⟨f156, f157⟩ := gtI e155
              obtain ⟨a158, e159, hsK175⟩ := bindS hsK175
              obtain ⟨f160, f161⟩ := gtI e159
              obtain ⟨_, e162, hsK175⟩ := bindS hsK175
              have f164 := ckI e162
              obtain ⟨_, e163, hsK175⟩ := bindS hsK175
              have f165 := ckI e163
              obtain ⟨d166, e167, hsK175⟩ := bindS hsK175
              refine AWp.rd hT hA { tk := [118] } rfl (by (repeat (cbv; simp only [c124, f149, f150, f153, f156, f157, f160, f161, f164, f165, e167])); first | done | cbv) (by kernel_rfl) (lb rfl) ?_
              refine nT ?_
              obtain ⟨l168, e169, hsK175⟩ := bindS hsK175
              obtain ⟨f170, f171⟩ := apI e169
              refine AWp.rg hT hA { tk := [7, 123] } (by (repeat (cbv; simp only [c124, f170, f171])); first | done | cbv) (lb rfl) ?_
              refine nB ?_
              refine nT ?_
              refine AWp.rg hT hA {} (by (repeat (cbv; simp only [c124])); first | done | cbv) (lb rfl) ?_
              exact nT ⟨_, (soI hsK175).symm, rfl, (by first | cbv | ((repeat (cbv; simp only [c124])); first | done | cbv))⟩
        · replace hsK175 := cF c94 hsK175
          refine AWp.cdF rfl (by first | rfl | simp only [c94, Bool.not_true, Bool.not_false, cond_true, cond_false]) ?_
          refine AWp.exit ?_
          refine xT ?_
          refine xT ?_
          refine exL hsK175 fun hx => ?_
          subst hx
          exact oxI ⟨rfl, _, _, hkK175, (by first | cbv | ((repeat (cbv; simp only [c94])); first | done | cbv))⟩
      · rintro _ ⟨v172, v173, hkK175, rfl⟩
        have h := (eL (hK175 _ hkK175))
        refine xB ?_
        refine nT ?_
        refine AWp.seq ?_
        refine AWp.rg hT hA {} (by cbv) (lb rfl) ?_
        refine nT ?_
        refine AWp.ret ?_
        cases soI h
        exact ⟨rfl, rfl, rfl, lb rfl, _, rfl⟩
  · replace h := cF c5 h
    refine AWp.cdT rfl (by first | rfl | simp only [c5, Bool.not_true, Bool.not_false, cond_true, cond_false]) ?_
    refine AWp.seq ?_
    refine AWp.rg hT hA {} (by (repeat (cbv; simp only [c5])); first | done | cbv) (lb rfl) ?_
    refine nT ?_
    refine AWp.ret ?_
    refine rT ?_
    cases soI h
    exact ⟨rfl, rfl, rfl, lb rfl, _, rfl⟩

theorem H34w {A : Ar} (hA : A = Ar.std) {x1 : List D} {x2 : List D} {v46 : Bool} (h : H34 A x1 x2 = some v46) : ACall Try.prog 34 [(.d (.list 6 x1)), (.d (.list 6 x2))] [] (.d (.bool v46)) [] := by
  unfold H34 at h
  refine ACall.enter hT (fn := Try.f34) Try.func34 rfl (by decide) (by simp [Try.f34]) rfl rfl rfl rfl (lb rfl) ?_
  refine AWp.seq ?_
  refine AWp.rg hT hA {} (by cbv) (lb rfl) ?_
  refine nT ?_
  refine AWp.seq ?_
  refine AWp.seq ?_
  refine AWp.rg hT hA {} (by cbv) (lb rfl) ?_
  refine nT ?_
  rcases tf (A.zeq (A.len x1) (A.len x2)) with c3 | c3
  · replace h := cT c3 h
    refine AWp.cdF rfl (by first | rfl | simp only [c3, Bool.not_true, Bool.not_false, cond_true, cond_false]) ?_
    refine AWp.skip ?_
    refine nT ?_
    refine AWp.seq ?_
    refine AWp.seq ?_
    refine AWp.rg hT hA {} (by (repeat (cbv; simp only [c3])); first | done | cbv) (lb rfl) ?_
    refine nT ?_
    refine AWp.block ?_
    obtain ⟨xK45, hxK45, K45, hK45, hkK45⟩ := bindK h
    refine AWp.cutX 0 [] [] 0 (lb rfl) (fun τ => K45 (.inl ()) = some v46 ∧ τ = { env := [], heap := [], n := 26 }) ?_ ?_
    · skip
      refine AWp.iter hxK45 [0, 1, 5] [] 0 (lb rfl) (fun v24 => { env := [(0, (.d (.list 6 x1))), (1, (.d (.list 6 x2))), (5, (.d (.int .i64 v24)))], heap := [], n := 26 }) ⟨rfl, (by first | cbv | ((repeat (cbv; simp only [c3])); first | done | cbv))⟩ ?_
      rintro v24 eK45 hsK45
      dsimp only [H34L0] at hsK45
      refine AWp.seq ?_
      refine AWp.seq ?_
      refine AWp.rg hT hA {} (by cbv) (lb rfl) ?_
      refine nT ?_
      rcases tf (A.zlt v24 (A.len x1)) with c25 | c25
      · replace hsK45 := cT c25 hsK45
        refine AWp.cdT rfl (by first | rfl | simp only [c25, Bool.not_true, Bool.not_false, cond_true, cond_false]) ?_
        refine AWp.skip ?_
        refine nT ?_
        refine AWp.seq ?_
        refine AWp.block ?_
        refine AWp.seq ?_
        obtain ⟨⟨a26, a27, a28, a29, a30, a31⟩, e32, hsK45⟩ := bindS hsK45
        obtain ⟨f33, f34⟩ := gtI e32
        obtain ⟨⟨a35, a36, a37, a38, a39, a40⟩, e41, hsK45⟩ := bindS hsK45
        obtain ⟨f42, f43⟩ := gtI e41
        refine AWp.rd hT hA {} rfl (by (repeat (cbv; simp only [c25, f33, f34, f42, f43])); first | done | cbv) (by kernel_rfl) (lb rfl) ?_
        refine nT ?_
        rcases tf (A.deq [(.int .i64 a26), (.int .i64 a27), (.int .i64 a28), (.int .i64 a29), (.int .i64 a30), (.int .i64 a31)] [(.int .i64 a35), (.int .i64 a36), (.int .i64 a37), (.int .i64 a38), (.int .i64 a39), (.int .i64 a40)]) with c44 | c44
        · replace hsK45 := cT c44 hsK45
          refine AWp.cdF rfl (by first | rfl | simp only [c25, c44, Bool.not_true, Bool.not_false, cond_true, cond_false]) ?_
          refine AWp.skip ?_
          refine nB ?_
          refine nT ?_
          refine AWp.rg hT hA {} (by (repeat (cbv; simp only [c25, c44])); first | done | cbv) (lb rfl) ?_
          exact nT ⟨_, (soI hsK45).symm, rfl, (by first | cbv | ((repeat (cbv; simp only [c25, c44])); first | done | cbv))⟩
        · replace hsK45 := cF c44 hsK45
          refine AWp.cdT rfl (by first | rfl | simp only [c25, c44, Bool.not_true, Bool.not_false, cond_true, cond_false]) ?_
          refine AWp.seq ?_
          refine AWp.rg hT hA {} (by (repeat (cbv; simp only [c25, c44])); first | done | cbv) (lb rfl) ?_
          refine nT ?_
          refine AWp.ret ?_
          refine rB ?_
          refine rT ?_
          refine rT ?_
          refine exL hsK45 fun hx => ?_
          subst hx
          refine oxR ?_
          replace hkK45 := (eR (hK45 _ hkK45))
          refine rB ?_
          refine rT ?_
          cases soI hkK45
          exact ⟨rfl, rfl, rfl, lb rfl, _, rfl⟩
      · replace hsK45 := cF c25 hsK45
        refine AWp.cdF rfl (by first | rfl | simp only [c25, Bool.not_true, Bool.not_false, cond_true, cond_false]) ?_
        refine AWp.exit ?_
        refine xT ?_
        refine xT ?_
        refine exL hsK45 fun hx => ?_
        subst hx
        exact oxI ⟨rfl, hkK45, (by first | cbv | ((repeat (cbv; simp only [c25])); first | done | cbv))⟩
    · rintro _ ⟨hkK45, rfl⟩
      have h := (eL (hK45 _ hkK45))
      refine xB ?_
      refine nT ?_
      refine AWp.seq ?_
      refine AWp.rg hT hA {} (by cbv) (lb rfl) ?_
      refine nT ?_
      refine AWp.ret ?_
      cases soI h
      exact ⟨rfl, rfl, rfl, lb rfl, _, rfl⟩
  · replace h := cF c3 h
    refine AWp.cdT rfl (by first | rfl | simp only [c3, Bool.not_true, Bool.not_false, cond_true, cond_false]) ?_
    refine AWp.seq ?_
    refine AWp.rg hT hA {} (by (repeat (cbv; simp only [c3])); first | done | cbv) (lb rfl) ?_
    refine nT ?_
    refine AWp.ret ?_
    refine rT ?_
    cases soI h
    exact ⟨rfl, rfl, rfl, lb rfl, _, rfl⟩

theorem H5w {A : Ar} (hA : A = Ar.std) {x1 : List D} {x2 : List D} {v27 : Bool} (h : H5 A x1 x2 = some v27) : ACall Try.prog 5 [(.d (.list 4 x1)), (.d (.list 6 x2))] [] (.d (.bool v27)) [] := by
  unfold H5 at h
  refine ACall.enter hT (fn := Try.f5) Try.func5 rfl (by decide) (by simp [Try.f5]) rfl rfl rfl rfl (lb rfl) ?_
  refine AWp.seq ?_
  refine AWp.rg hT hA {} (by cbv) (lb rfl) ?_
  refine nT ?_
  refine AWp.seq ?_
  refine AWp.seq ?_
  obtain ⟨v8, hvK9, h⟩ := bindS h
  refine AWp.cutN [0, 1, 14] [] 0 (lb rfl) (fun τ => τ = { env := [(0, (.d (.list 4 x1))), (1, (.d (.list 6 x2))), (14, (.d (.bool v8)))], heap := [], n := 39 }) ?_ ?_
  · skip
    refine AWp.region ?_
    obtain ⟨r4, e3, hvK9⟩ := bindS hvK9
    refine AOps.cc hT hA {} (by cbv) (lb rfl) (H17w hA e3) rfl (.inl rfl) rfl rfl rfl (lb rfl) rfl rfl ?_
    rcases tf r4 with c5 | c5
    · replace hvK9 := cT c5 hvK9
      refine AOps.cd hT hA {} (by (repeat (cbv; simp only [c5])); first | done | cbv) (lb rfl) ?_
      cases soI hvK9
      exact oNi ⟨rfl, (by first | cbv | ((repeat (cbv; simp only [c5])); first | done | cbv))⟩
    · replace hvK9 := cF c5 hvK9
      obtain ⟨r7, e6, hvK9⟩ := bindS hvK9
      refine AOps.cc hT hA {} (by (repeat (cbv; simp only [c5])); first | done | cbv) (lb rfl) (H18w hA e6) rfl (.inl rfl) rfl rfl rfl (lb rfl) rfl rfl ?_
      refine AOps.cd hT hA {} (by (repeat (cbv; simp only [c5])); first | done | cbv) (lb rfl) ?_
      cases soI hvK9
      exact oNi ⟨rfl, (by first | cbv | ((repeat (cbv; simp only [c5])); first | done | cbv))⟩
  · rintro _ rfl
    refine nT ?_
    rcases tf v8 with c10 | c10
    · replace h := cT c10 h
      refine AWp.cdT rfl (by first | rfl | simp only [c10, Bool.not_true, Bool.not_false, cond_true, cond_false]) ?_
      refine AWp.seq ?_
      refine AWp.region ?_
      obtain ⟨r12, e11, h⟩ := bindS h
      refine AOps.cc hT hA { tk := [15] } (by (repeat (cbv; simp only [c10])); first | done | cbv) (lb rfl) (H19w hA e11) rfl (.inl rfl) rfl rfl rfl (lb rfl) rfl rfl ?_
      refine AOps.cd hT hA { tk := [15] } (by (repeat (cbv; simp only [c10])); first | done | cbv) (lb rfl) ?_
      refine nT ?_
      refine AWp.ret ?_
      refine rT ?_
      cases soI h
      exact ⟨rfl, rfl, rfl, lb rfl, _, rfl⟩
    · replace h := cF c10 h
      refine AWp.cdF rfl (by first | rfl | simp only [c10, Bool.not_true, Bool.not_false, cond_true, cond_false]) ?_
      refine AWp.skip ?_
      refine nT ?_
      refine AWp.seq ?_
      refine AWp.region ?_
      obtain ⟨⟨r14, r15⟩, e13, h⟩ := bindS h
      refine AOps.cc hT hA {} (by (repeat (cbv; simp only [c10])); first | done | cbv) (lb rfl) (H32w hA e13) rfl (.inl rfl) rfl rfl rfl (lb rfl) rfl rfl ?_
      refine AOps.cd hT hA {} (by (repeat (cbv; simp only [c10])); first | done | cbv) (lb rfl) ?_
      refine nT ?_
      refine AWp.seq ?_
      refine AWp.region ?_
      obtain ⟨⟨r17, r18⟩, e16, h⟩ := bindS h
      refine AOps.cc hT hA {} (by (repeat (cbv; simp only [c10])); first | done | cbv) (lb rfl) (H33w hA e16) rfl (.inl rfl) rfl rfl rfl (lb rfl) rfl rfl ?_
      refine AOps.cd hT hA {} (by (repeat (cbv; simp only [c10])); first | done | cbv) (lb rfl) ?_
      refine nT ?_
      refine AWp.seq ?_
      obtain ⟨v25, hvK26, h⟩ := bindS h
      refine AWp.cutN [4] [] 0 (lb rfl) (fun τ => τ = { env := [(4, (.d (.bool v25)))], heap := [], n := 39 }) ?_ ?_
      · skip
        refine AWp.region ?_
        obtain ⟨r20, e19, hvK26⟩ := bindS hvK26
        refine AOps.cc hT hA { tk := [38] } (by (repeat (cbv; simp only [c10])); first | done | cbv) (lb rfl) (H34w hA e19) rfl (.inl rfl) rfl rfl rfl (lb rfl) rfl rfl ?_
        rcases tf r20 with c21 | c21
        · replace hvK26 := cT c21 hvK26
          rcases tf (A.zeq r15 r18) with c22 | c22
          · replace hvK26 := cT c22 hvK26
            obtain ⟨r24, e23, hvK26⟩ := bindS hvK26
            refine AOps.cc hT hA { tk := [38] } (by (repeat (cbv; simp only [c10, c21, c22])); first | done | cbv) (lb rfl) (H19w hA e23) rfl (.inl rfl) rfl rfl rfl (lb rfl) rfl rfl ?_
            refine AOps.cd hT hA { tk := [38] } (by (repeat (cbv; simp only [c10, c21, c22])); first | done | cbv) (lb rfl) ?_
            cases soI hvK26
            exact oNi ⟨rfl, (by first | cbv | ((repeat (cbv; simp only [c10, c21, c22])); first | done | cbv))⟩
          · replace hvK26 := cF c22 hvK26
            refine AOps.cd hT hA { tk := [38] } (by (repeat (cbv; simp only [c10, c21, c22])); first | done | cbv) (lb rfl) ?_
            cases soI hvK26
            exact oNi ⟨rfl, (by first | cbv | ((repeat (cbv; simp only [c10, c21, c22])); first | done | cbv))⟩
        · replace hvK26 := cF c21 hvK26
          refine AOps.cd hT hA { tk := [38] } (by (repeat (cbv; simp only [c10, c21])); first | done | cbv) (lb rfl) ?_
          cases soI hvK26
          exact oNi ⟨rfl, (by first | cbv | ((repeat (cbv; simp only [c10, c21])); first | done | cbv))⟩
      · rintro _ rfl
        refine nT ?_
        refine AWp.ret ?_
        cases soI h
        exact ⟨rfl, rfl, rfl, lb rfl, _, rfl⟩

theorem H80w {A : Ar} (hA : A = Ar.std) (h : H80 A = some ()) : ACall Try.prog 80 [] [] (.d (.bool true)) [] := by
  unfold H80 at h
  refine ACall.enter hT (fn := Try.f80) Try.func80 rfl (by decide) (by simp [Try.f80]) rfl rfl rfl rfl (lb rfl) ?_
  refine AWp.seq ?_
  refine AWp.rg hT hA {} (by cbv) (lb rfl) ?_
  refine nT ?_
  refine AWp.seq ?_
  refine AWp.rg hT hA {} (by cbv) (lb rfl) ?_
  refine nT ?_
  refine AWp.ret ?_
  cases soI h
  exact ⟨rfl, rfl, rfl, lb rfl, _, rfl⟩

theorem H118w {A : Ar} (hA : A = Ar.std) {x1 : Int} {x2 : Int} {x3 : Int} {x4 : Int} {x5 : Int} {x6 : Int} {x7 : Int} {x8 : Int} {x9 : Int} {x10 : Int} {x11 : Int} {x12 : Int} {v17 : Bool} (h : H118 A x1 x2 x3 x4 x5 x6 x7 x8 x9 x10 x11 x12 = some v17) : ACall Try.prog 118 [(.d (.agg [(.int .i64 x1), (.int .i64 x2), (.int .i64 x3), (.int .i64 x4), (.int .i64 x5), (.int .i64 x6)])), (.ptr 0 0)] [(.cells [(.d (.int .i64 x7)), (.d (.int .i64 x8)), (.d (.int .i64 x9)), (.d (.int .i64 x10)), (.d (.int .i64 x11)), (.d (.int .i64 x12))])] (.d (.bool v17)) [(.cells [(.d (.int .i64 x7)), (.d (.int .i64 x8)), (.d (.int .i64 x9)), (.d (.int .i64 x10)), (.d (.int .i64 x11)), (.d (.int .i64 x12))])] := by
  unfold H118 at h
  refine ACall.enter hT (fn := Try.f118) Try.func118 rfl (by decide) (by simp [Try.f118]) rfl rfl rfl rfl (lb rfl) ?_
  refine AWp.seq ?_
  refine AWp.rg hT hA {} (by cbv) (lb rfl) ?_
  refine nT ?_
  refine AWp.seq ?_
  obtain ⟨v15, hvK16, h⟩ := bindS h
  refine AWp.cutN [3] [] 1 (lb rfl) (fun τ => τ = { env := [(3, (.d (.bool v15)))], heap := [(.cells [(.d (.int .i64 x7)), (.d (.int .i64 x8)), (.d (.int .i64 x9)), (.d (.int .i64 x10)), (.d (.int .i64 x11)), (.d (.int .i64 x12))])], n := 21 }) ?_ ?_
  · skip
    rcases tf (A.zle x5 x11) with c13 | c13
    · replace hvK16 := cT c13 hvK16
      rcases tf (A.zeq x6 0) with c14 | c14
      · replace hvK16 := cT c14 hvK16
        refine AWp.rg hT hA { tk := [20] } (by (repeat (cbv; simp only [c13, c14])); first | done | cbv) (lb rfl) ?_
        cases soI hvK16
        exact oNi ⟨rfl, (by first | cbv | ((repeat (cbv; simp only [c13, c14])); first | done | cbv))⟩
      · replace hvK16 := cF c14 hvK16
        refine AWp.rg hT hA { tk := [20] } (by (repeat (cbv; simp only [c13, c14])); first | done | cbv) (lb rfl) ?_
        cases soI hvK16
        exact oNi ⟨rfl, (by first | cbv | ((repeat (cbv; simp only [c13, c14])); first | done | cbv))⟩
    · replace hvK16 := cF c13 hvK16
      refine AWp.rg hT hA { tk := [20] } (by (repeat (cbv; simp only [c13])); first | done | cbv) (lb rfl) ?_
      cases soI hvK16
      exact oNi ⟨rfl, (by first | cbv | ((repeat (cbv; simp only [c13])); first | done | cbv))⟩
  · rintro _ rfl
    refine nT ?_
    refine AWp.ret ?_
    cases soI h
    exact ⟨rfl, rfl, rfl, lb rfl, _, rfl⟩

theorem H88w {A : Ar} (hA : A = Ar.std) {x1 : List D} {x2 : Int} {x3 : Int} {x4 : Int} {x5 : Int} {x6 : Int} {x7 : Int} {v50 : List D} (h : H88 A x1 x2 x3 x4 x5 x6 x7 = some v50) : ACall Try.prog 88 [(.d (.list 6 x1)), (.func 118 [] [(.ptr 0 0)])] [(.cells [(.d (.int .i64 x2)), (.d (.int .i64 x3)), (.d (.int .i64 x4)), (.d (.int .i64 x5)), (.d (.int .i64 x6)), (.d (.int .i64 x7))])] (.own 6 v50) [(.cells [(.d (.int .i64 x2)), (.d (.int .i64 x3)), (.d (.int .i64 x4)), (.d (.int .i64 x5)), (.d (.int .i64 x6)), (.d (.int .i64 x7))])] := by
  unfold H88 at h
  refine ACall.enter hT (fn := Try.f88) Try.func88 rfl (by decide) (by simp [Try.f88]) rfl rfl rfl rfl (lb rfl) ?_
  refine AWp.seq ?_
  refine AWp.rg hT hA {} (by cbv) (lb rfl) ?_
  refine nT ?_
  refine AWp.seq ?_
  refine AWp.rg hT hA {} (by cbv) (lb rfl) ?_
  refine nT ?_
  refine AWp.seq ?_
  refine AWp.seq ?_
  refine AWp.rg hT hA {} (by cbv) (lb rfl) ?_
  refine nT ?_
  refine AWp.block ?_
  obtain ⟨xK49, hxK49, K49, hK49, hkK49⟩ := bindK h
  refine AWp.cutX 0 [5] [] 1 (lb rfl) (fun τ => ∃ v48, K49 v48 = some v50 ∧ τ = { env := [(5, (.own 6 v48))], heap := [(.cells [(.d (.int .i64 x2)), (.d (.int .i64 x3)), (.d (.int .i64 x4)), (.d (.int .i64 x5)), (.d (.int .i64 x6)), (.d (.int .i64 x7))])], n := 23 }) ?_ ?_
  · skip
    refine AWp.iter hxK49 [1, 5, 8, 9, 10] [] 1 (lb rfl) (fun (v27, v28) => { env := [(1, (.func 118 [] [(.ptr 0 0)])), (5, (.own 6 v27)), (8, (.d (.list 6 x1))), (9, (.d (.int .i64 (A.len x1)))), (10, (.d (.int .i64 v28)))], heap := [(.cells [(.d (.int .i64 x2)), (.d (.int .i64 x3)), (.d (.int .i64 x4)), (.d (.int .i64 x5)), (.d (.int .i64 x6)), (.d (.int .i64 x7))])], n := 23 }) ⟨rfl, (by cbv)⟩ ?_
    rintro ⟨v27, v28⟩ eK49 hsK49
    dsimp only [H88L0] at hsK49
    refine AWp.seq ?_
    refine AWp.rg hT hA {} (by cbv) (lb rfl) ?_
    refine nT ?_
    refine AWp.seq ?_
    rcases tf (A.zlt v28 (A.len x1)) with c29 | c29
    · replace hsK49 := cT c29 hsK49
      refine AWp.cdT rfl (by first | rfl | simp only [c29, Bool.not_true, Bool.not_false, cond_true, cond_false]) ?_
      refine AWp.skip ?_
      refine nT ?_
      refine AWp.seq ?_
      refine AWp.block ?_
      refine AWp.seq ?_
      obtain ⟨⟨a30, a31, a32, a33, a34, a35⟩, e36, hsK49⟩ := bindS hsK49
      obtain ⟨f37, f38⟩ := gtI e36
      refine AWp.rg hT hA { tk := [13] } (by (repeat (cbv; simp only [c29, f37, f38])); first | done | cbv) (lb rfl) ?_
      refine nT ?_
      refine AWp.seq ?_
      refine AWp.region ?_
      obtain ⟨r40, e39, hsK49⟩ := bindS hsK49
      refine AOps.cc hT hA {} (by (repeat (cbv; simp only [c29])); first | done | cbv) (lb rfl) (H118w hA e39) rfl (.inl rfl) rfl rfl rfl (lb rfl) rfl rfl ?_
      refine AOps.cd hT hA {} (by (repeat (cbv; simp only [c29])); first | done | cbv) (lb rfl) ?_
      refine nT ?_
      obtain ⟨v46, hvK47, hsK49⟩ := bindS hsK49
      refine AWp.cutN [1, 5, 8, 9, 10] [] 1 (lb rfl) (fun τ => τ = { env := [(1, (.func 118 [] [(.ptr 0 0)])), (5, (.own 6 v46)), (8, (.d (.list 6 x1))), (9, (.d (.int .i64 (A.len x1)))), (10, (.d (.int .i64 v28)))], heap := [(.cells [(.d (.int .i64 x2)), (.d (.int .i64 x3)), (.d (.int .i64 x4)), (.d (.int .i64 x5)), (.d (.int .i64 x6)), (.d (.int .i64 x7))])], n := 23 }) ?_ ?_
      · skip
        rcases tf r40 with c41 | c41
        · replace hvK47 := cT c41 hvK47
          refine AWp.cdT rfl (by first | rfl | simp only [c29, c41, Bool.not_true, Bool.not_false, cond_true, cond_false]) ?_
          obtain ⟨l42, e43, hvK47⟩ := bindS hvK47
          obtain ⟨f44, f45⟩ := apI e43
          refine AWp.rg hT hA { tk := [5, 20] } (by (repeat (cbv; simp only [c29, c41, f44, f45])); first | done | cbv) (lb rfl) ?_
          cases soI hvK47
          exact oNi ⟨rfl, (by first | cbv | ((repeat (cbv; simp only [c29, c41])); first | done | cbv))⟩
        · replace hvK47 := cF c41 hvK47
          refine AWp.cdF rfl (by first | rfl | simp only [c29, c41, Bool.not_true, Bool.not_false, cond_true, cond_false]) ?_
          refine AWp.skip ?_
          cases soI hvK47
          exact oNi ⟨rfl, (by first | cbv | ((repeat (cbv; simp only [c29, c41])); first | done | cbv))⟩
      · rintro _ rfl
        refine nB ?_
        refine nT ?_
        refine AWp.rg hT hA {} (by cbv) (lb rfl) ?_
        exact nT ⟨_, (soI hsK49).symm, rfl, (by cbv)⟩
    · replace hsK49 := cF c29 hsK49
      refine AWp.cdF rfl (by first | rfl | simp only [c29, Bool.not_true, Bool.not_false, cond_true, cond_false]) ?_
      refine AWp.exit ?_
      refine xT ?_
      refine xT ?_
      refine exL hsK49 fun hx => ?_
      subst hx
      exact oxI ⟨rfl, _, hkK49, (by first | cbv | ((repeat (cbv; simp only [c29])); first | done | cbv))⟩
  · rintro _ ⟨v48, hkK49, rfl⟩
    have h := (hK49 _ hkK49)
    refine xB ?_
    refine nT ?_
    refine AWp.seq ?_
    refine AWp.rg hT hA { tk := [5, 22] } (by cbv) (lb rfl) ?_
    refine nT ?_
    refine AWp.ret ?_
    cases soI h
    exact ⟨rfl, rfl, rfl, lb rfl, _, rfl⟩

theorem H82w {A : Ar} (hA : A = Ar.std) {x1 : List D} {v30 : Int} (h : H82 A x1 = some v30) : ACall Try.prog 82 [(.d (.list 6 x1))] [] (.d (.int .i64 v30)) [] := by
  unfold H82 at h
  refine ACall.enter hT (fn := Try.f82) Try.func82 rfl (by decide) (by simp [Try.f82]) rfl rfl rfl rfl (lb rfl) ?_
  refine AWp.seq ?_
  refine AWp.rg hT hA {} (by cbv) (lb rfl) ?_
  refine nT ?_
  refine AWp.seq ?_
  refine AWp.rg hT hA {} (by cbv) (lb rfl) ?_
  refine nT ?_
  refine AWp.seq ?_
  refine AWp.seq ?_
  refine AWp.rg hT hA {} (by cbv) (lb rfl) ?_
  refine nT ?_
  refine AWp.block ?_
  obtain ⟨xK29, hxK29, K29, hK29, hkK29⟩ := bindK h
  refine AWp.cutX 0 [3] [] 0 (lb rfl) (fun τ => ∃ v28, K29 v28 = some v30 ∧ τ = { env := [(3, (.d (.int .i64 v28)))], heap := [], n := 20 }) ?_ ?_
  · skip
    refine AWp.iter hxK29 [0, 3, 6, 7, 8] [] 0 (lb rfl) (fun (v14, v15) => { env := [(0, (.d (.list 6 x1))), (3, (.d (.int .i64 v14))), (6, (.d (.list 6 x1))), (7, (.d (.int .i64 (A.len x1)))), (8, (.d (.int .i64 v15)))], heap := [], n := 20 }) ⟨rfl, (by cbv)⟩ ?_
    rintro ⟨v14, v15⟩ eK29 hsK29
    dsimp only [H82L0] at hsK29
    refine AWp.seq ?_
    refine AWp.rg hT hA {} (by cbv) (lb rfl) ?_
    refine nT ?_
    refine AWp.seq ?_
    rcases tf (A.zlt v15 (A.len x1)) with c16 | c16
    · replace hsK29 := cT c16 hsK29
      refine AWp.cdT rfl (by first | rfl | simp only [c16, Bool.not_true, Bool.not_false, cond_true, cond_false]) ?_
      refine AWp.skip ?_
      refine nT ?_
      refine AWp.seq ?_
      refine AWp.block ?_
      refine AWp.seq ?_
      obtain ⟨⟨a17, a18, a19, a20, a21, a22⟩, e23, hsK29⟩ := bindS hsK29
      obtain ⟨f24, f25⟩ := gtI e23
      refine AWp.rg hT hA { tk := [11], esc := [5] } (by (repeat (cbv; simp only [c16, f24, f25])); first | done | cbv) (lb rfl) ?_
      refine nT ?_
      refine AWp.region ?_
      obtain ⟨r27, e26, hsK29⟩ := bindS hsK29
      refine AOps.cc hT hA { tk := [17] } (by (repeat (cbv; simp only [c16])); first | done | cbv) (lb rfl) (H88w hA e26) rfl (.inl rfl) rfl rfl rfl (lb rfl) rfl rfl ?_
      refine AOps.cd hT hA { tk := [17] } (by (repeat (cbv; simp only [c16])); first | done | cbv) (lb rfl) ?_
      refine nB ?_
      refine nT ?_
      refine AWp.rg hT hA {} (by (repeat (cbv; simp only [c16])); first | done | cbv) (lb rfl) ?_
      exact nT ⟨_, (soI hsK29).symm, rfl, (by first | cbv | ((repeat (cbv; simp only [c16])); first | done | cbv))⟩
    · replace hsK29 := cF c16 hsK29
      refine AWp.cdF rfl (by first | rfl | simp only [c16, Bool.not_true, Bool.not_false, cond_true, cond_false]) ?_
      refine AWp.exit ?_
      refine xT ?_
      refine xT ?_
      refine exL hsK29 fun hx => ?_
      subst hx
      exact oxI ⟨rfl, _, hkK29, (by first | cbv | ((repeat (cbv; simp only [c16])); first | done | cbv))⟩
  · rintro _ ⟨v28, hkK29, rfl⟩
    have h := (hK29 _ hkK29)
    refine xB ?_
    refine nT ?_
    refine AWp.seq ?_
    refine AWp.rg hT hA { tk := [3, 19] } (by cbv) (lb rfl) ?_
    refine nT ?_
    refine AWp.ret ?_
    cases soI h
    exact ⟨rfl, rfl, rfl, lb rfl, _, rfl⟩

theorem H84w {A : Ar} (hA : A = Ar.std) {x1 : List D} {v4 : Bool} (h : H84 A x1 = some v4) : ACall Try.prog 84 [(.ptr 0 0)] [(.cells [(.d (.list 6 x1))])] (.d (.bool v4)) [(.cells [(.d (.list 6 x1))])] := by
  unfold H84 at h
  refine ACall.enter hT (fn := Try.f84) Try.func84 rfl (by decide) (by simp [Try.f84]) rfl rfl rfl rfl (lb rfl) ?_
  refine AWp.seq ?_
  refine AWp.rg hT hA {} (by cbv) (lb rfl) ?_
  refine nT ?_
  refine AWp.seq ?_
  refine AWp.region ?_
  obtain ⟨r3, e2, h⟩ := bindS h
  refine AOps.cc hT hA { tk := [4] } (by cbv) (lb rfl) (H82w hA e2) rfl (.inr rfl) rfl rfl rfl (lb rfl) rfl rfl ?_
  refine AOps.cd hT hA { tk := [4] } (by cbv) (lb rfl) ?_
  refine nT ?_
  refine AWp.ret ?_
  cases soI h
  exact ⟨rfl, rfl, rfl, lb rfl, _, rfl⟩

theorem H62aw {A : Ar} (hA : A = Ar.std) {x1 : List D} {x2 : List D} {v9 : Bool} {v10 : Int} (h : H62a A x1 x2 = some (v9, v10)) : ACall Try.prog 62 [(.d (.list 6 x1)), (.func 80 [] []), (.func 84 [] [(.ptr 0 0)])] [(.cells [(.d (.list 6 x2))])] (.tuple [(.d (.bool v9)), (.d (.int .i64 v10))]) [(.cells [(.d (.list 6 x2))])] := by
  unfold H62a at h
  refine ACall.enter hT (fn := Try.f62) Try.func62 rfl (by decide) (by simp [Try.f62]) rfl rfl rfl rfl (lb rfl) ?_
  refine AWp.seq ?_
  refine AWp.rg hT hA {} (by cbv) (lb rfl) ?_
  refine nT ?_
  refine AWp.seq ?_
  refine AWp.rg hT hA {} (by cbv) (lb rfl) ?_
  refine nT ?_
  refine AWp.seq ?_
  refine AWp.block ?_
  refine AWp.seq ?_
  refine AWp.region ?_
  obtain ⟨r4, e3, h⟩ := bindS h
  refine AOps.cc hT hA {} (by cbv) (lb rfl) (H24w hA e3) rfl (.inr rfl) rfl rfl rfl (lb rfl) rfl rfl ?_
  refine AOps.cd hT hA {} (by cbv) (lb rfl) ?_
  refine nT ?_
  rcases tf r4 with c5 | c5
  · replace h := cT c5 h
    refine AWp.cdF rfl (by first | rfl | simp only [c5, Bool.not_true, Bool.not_false, cond_true, cond_false]) ?_
    refine AWp.seq ?_
    refine AWp.region ?_
    obtain ⟨_, e6, h⟩ := bindS h
    refine AOps.cc hT hA {} (by (repeat (cbv; simp only [c5])); first | done | cbv) (lb rfl) (H80w hA e6) rfl (.inr rfl) rfl rfl rfl (lb rfl) rfl rfl ?_
    refine AOps.cd hT hA {} (by (repeat (cbv; simp only [c5])); first | done | cbv) (lb rfl) ?_
    refine nT ?_
    refine AWp.cdF rfl (by first | rfl | simp only [c5, Bool.not_true, Bool.not_false, cond_true, cond_false]) ?_
    refine AWp.skip ?_
    refine nB ?_
    refine nT ?_
    refine AWp.seq ?_
    refine AWp.region ?_
    obtain ⟨r8, e7, h⟩ := bindS h
    refine AOps.cc hT hA {} (by (repeat (cbv; simp only [c5])); first | done | cbv) (lb rfl) (H84w hA e7) rfl (.inl rfl) rfl rfl rfl (lb rfl) rfl rfl ?_
    refine AOps.cd hT hA {} (by (repeat (cbv; simp only [c5])); first | done | cbv) (lb rfl) ?_
    refine nT ?_
    refine AWp.ret ?_
    cases soI h
    exact ⟨rfl, rfl, rfl, lb rfl, _, rfl⟩
  · replace h := cF c5 h
    refine AWp.cdT rfl (by first | rfl | simp only [c5, Bool.not_true, Bool.not_false, cond_true, cond_false]) ?_
    refine AWp.seq ?_
    refine AWp.rg hT hA {} (by (repeat (cbv; simp only [c5])); first | done | cbv) (lb rfl) ?_
    refine nT ?_
    refine AWp.ret ?_
    refine rB ?_
    refine rT ?_
    cases soI h
    exact ⟨rfl, rfl, rfl, lb rfl, _, rfl⟩

theorem H37w {A : Ar} (hA : A = Ar.std) {x1 : List D} {v5 : Bool} {v6 : Int} (h : H37 A x1 = some (v5, v6)) : ACall Try.prog 37 [(.d (.list 6 x1))] [] (.tuple [(.d (.bool v5)), (.d (.int .i64 v6))]) [] := by
  unfold H37 at h
  refine ACall.enter hT (fn := Try.f37) Try.func37 rfl (by decide) (by simp [Try.f37]) rfl rfl rfl rfl (lb rfl) ?_
  refine AWp.seq ?_
  refine AWp.rg hT hA { esc := [1] } (by cbv) (lb rfl) ?_
  refine nT ?_
  refine AWp.seq ?_
  refine AWp.region ?_
  obtain ⟨⟨r3, r4⟩, e2, h⟩ := bindS h
  refine AOps.cc hT hA {} (by cbv) (lb rfl) (H62aw hA e2) rfl (.inl rfl) rfl rfl rfl (lb rfl) rfl rfl ?_
  refine AOps.cd hT hA {} (by cbv) (lb rfl) ?_
  refine nT ?_
  refine AWp.ret ?_
  cases soI h
  exact ⟨rfl, rfl, rfl, lb rfl, _, rfl⟩

theorem H39w {A : Ar} (hA : A = Ar.std) {x1 : List D} {x2 : List D} {v9 : Bool} (h : H39 A x1 x2 = some v9) : ACall Try.prog 39 [(.d (.list 4 x1)), (.d (.list 6 x2))] [] (.d (.bool v9)) [] := by
  unfold H39 at h
  refine ACall.enter hT (fn := Try.f39) Try.func39 rfl (by decide) (by simp [Try.f39]) rfl rfl rfl rfl (lb rfl) ?_
  refine AWp.seq ?_
  refine AWp.rg hT hA {} (by cbv) (lb rfl) ?_
  refine nT ?_
  refine AWp.seq ?_
  refine AWp.region ?_
  obtain ⟨⟨r4, r5⟩, e3, h⟩ := bindS h
  refine AOps.cc hT hA {} (by cbv) (lb rfl) (H21w hA e3) rfl (.inl rfl) rfl rfl rfl (lb rfl) rfl rfl ?_
  refine AOps.cd hT hA {} (by cbv) (lb rfl) ?_
  refine nT ?_
  refine AWp.seq ?_
  obtain ⟨v7, hvK8, h⟩ := bindS h
  refine AWp.cutN [4] [] 0 (lb rfl) (fun τ => τ = { env := [(4, (.d (.bool v7)))], heap := [], n := 18 }) ?_ ?_
  · skip
    rcases tf (A.zeq r5 0) with c6 | c6
    · replace hvK8 := cT c6 hvK8
      refine AWp.rg hT hA { tk := [17] } (by (repeat (cbv; simp only [c6])); first | done | cbv) (lb rfl) ?_
      cases soI hvK8
      exact oNi ⟨rfl, (by first | cbv | ((repeat (cbv; simp only [c6])); first | done | cbv))⟩
    · replace hvK8 := cF c6 hvK8
      refine AWp.rg hT hA { tk := [17] } (by (repeat (cbv; simp only [c6])); first | done | cbv) (lb rfl) ?_
      cases soI hvK8
      exact oNi ⟨rfl, (by first | cbv | ((repeat (cbv; simp only [c6])); first | done | cbv))⟩
  · rintro _ rfl
    refine nT ?_
    refine AWp.ret ?_
    cases soI h
    exact ⟨rfl, rfl, rfl, lb rfl, _, rfl⟩

theorem H99w {A : Ar} (hA : A = Ar.std) {x1 : List D} {x2 : List D} {v76 : Bool} (h : H99 A x1 x2 = some v76) : ACall Try.prog 99 [(.d (.list 6 x1)), (.d (.list 1 x2))] [] (.d (.bool v76)) [] := by
  unfold H99 at h
  refine ACall.enter hT (fn := Try.f99) Try.func99 rfl (by decide) (by simp [Try.f99]) rfl rfl rfl rfl (lb rfl) ?_
  refine AWp.seq ?_
  refine AWp.rg hT hA {} (by cbv) (lb rfl) ?_
  refine nT ?_
  refine AWp.seq ?_
  refine AWp.rg hT hA {} (by cbv) (lb rfl) ?_
  refine nT ?_
  refine AWp.seq ?_
  refine AWp.seq ?_
  refine AWp.rg hT hA {} (by cbv) (lb rfl) ?_
  refine nT ?_
  refine AWp.block ?_
  obtain ⟨xK37, hxK37, K37, hK37, hkK37⟩ := bindK h
  refine AWp.cutX 0 [0, 5] [] 1 (lb rfl) (fun τ => ∃ v35, K37 (.inl v35) = some v76 ∧ τ = { env := [(0, (.d (.list 6 x1))), (5, (.map 0))], heap := [(.map false [.int .i64] v35)], n := 46 }) ?_ ?_
  · skip
    refine AWp.iter hxK37 [0, 5, 11, 12, 13] [] 1 (lb rfl) (fun (v18, v19) => { env := [(0, (.d (.list 6 x1))), (5, (.map 0)), (11, (.d (.list 1 x2))), (12, (.d (.int .i64 (A.len x2)))), (13, (.d (.int .i64 v18)))], heap := [(.map false [.int .i64] v19)], n := 46 }) ⟨rfl, (by cbv)⟩ ?_
    rintro ⟨v18, v19⟩ eK37 hsK37
    dsimp only [H99L0] at hsK37
    refine AWp.seq ?_
    refine AWp.rg hT hA {} (by cbv) (lb rfl) ?_
    refine nT ?_
    refine AWp.seq ?_
    rcases tf (A.zlt v18 (A.len x2)) with c20 | c20
    · replace hsK37 := cT c20 hsK37
      refine AWp.cdT rfl (by first | rfl | simp only [c20, Bool.not_true, Bool.not_false, cond_true, cond_false]) ?_
      refine AWp.skip ?_
      refine nT ?_
      refine AWp.seq ?_
      refine AWp.block ?_
      refine AWp.seq ?_
      obtain ⟨a21, e22, hsK37⟩ := bindS hsK37
      obtain ⟨f23, f24⟩ := gtI e22
      refine AWp.rg hT hA {} (by (repeat (cbv; simp only [c20, f23, f24])); first | done | cbv) (lb rfl) ?_
      refine nT ?_
      refine AWp.seq ?_
      refine AWp.seq ?_
      obtain ⟨v32, hvK33, hsK37⟩ := bindS hsK37
      refine AWp.cutN [0, 5, 7, 11, 12, 13, 25] [] 1 (lb rfl) (fun τ => τ = { env := [(0, (.d (.list 6 x1))), (5, (.map 0)), (7, (.d (.int .i64 a21))), (11, (.d (.list 1 x2))), (12, (.d (.int .i64 (A.len x2)))), (13, (.d (.int .i64 v18))), (25, (.d (.bool v32)))], heap := [(.map false [.int .i64] v19)], n := 46 }) ?_ ?_
      · skip
        refine AWp.region ?_
        obtain ⟨r26, e25, hvK33⟩ := bindS hvK33
        refine AOps.cc hT hA {} (by (repeat (cbv; simp only [c20])); first | done | cbv) (lb rfl) (H64w hA e25) rfl (.inr rfl) rfl rfl rfl (lb rfl) rfl rfl ?_
        rcases tf r26 with c27 | c27
        · replace hvK33 := cT c27 hvK33
          obtain ⟨o31, e29, hvK33⟩ := bindS hvK33
          rcases o31 with _ | a28
          · have f30 := lkN e29
            refine AOps.cd hT hA {} (by (repeat (cbv; simp only [c20, c27, f30])); first | done | cbv) (lb rfl) ?_
            cases soI hvK33
            exact oNi ⟨rfl, (by first | cbv | ((repeat (cbv; simp only [c20, c27])); first | done | cbv))⟩
          · have f30 := lkS e29
            refine AOps.cd hT hA {} (by (repeat (cbv; simp only [c20, c27, f30])); first | done | cbv) (lb rfl) ?_
            cases soI hvK33
            exact oNi ⟨rfl, (by first | cbv | ((repeat (cbv; simp only [c20, c27])); first | done | cbv))⟩
        · replace hvK33 := cF c27 hvK33
          refine AOps.cd hT hA {} (by (repeat (cbv; simp only [c20, c27])); first | done | cbv) (lb rfl) ?_
          cases soI hvK33
          exact oNi ⟨rfl, (by first | cbv | ((repeat (cbv; simp only [c20, c27])); first | done | cbv))⟩
      · rintro _ rfl
        refine nT ?_
        rcases tf v32 with c34 | c34
        · replace hsK37 := cT c34 hsK37
          refine AWp.cdT rfl (by first | rfl | simp only [c34, Bool.not_true, Bool.not_false, cond_true, cond_false]) ?_
          refine AWp.seq ?_
          refine AWp.rg hT hA {} (by (repeat (cbv; simp only [c34])); first | done | cbv) (lb rfl) ?_
          refine nT ?_
          refine AWp.ret ?_
          refine rT ?_
          refine rB ?_
          refine rT ?_
          refine rT ?_
          refine exL hsK37 fun hx => ?_
          subst hx
          refine oxR ?_
          replace hkK37 := (eR (hK37 _ hkK37))
          refine rB ?_
          refine rT ?_
          cases soI hkK37
          exact ⟨rfl, rfl, rfl, lb rfl, _, rfl⟩
        · replace hsK37 := cF c34 hsK37
          refine AWp.cdF rfl (by first | rfl | simp only [c34, Bool.not_true, Bool.not_false, cond_true, cond_false]) ?_
          refine AWp.skip ?_
          refine nT ?_
          refine AWp.rg hT hA {} (by (repeat (cbv; simp only [c34])); first | done | cbv) (lb rfl) ?_
          refine nB ?_
          refine nT ?_
          refine AWp.rg hT hA {} (by (repeat (cbv; simp only [c34])); first | done | cbv) (lb rfl) ?_
          exact nT ⟨_, (soI hsK37).symm, rfl, (by first | cbv | ((repeat (cbv; simp only [c34])); first | done | cbv))⟩
    · replace hsK37 := cF c20 hsK37
      refine AWp.cdF rfl (by first | rfl | simp only [c20, Bool.not_true, Bool.not_false, cond_true, cond_false]) ?_
      refine AWp.exit ?_
      refine xT ?_
      refine xT ?_
      refine exL hsK37 fun hx => ?_
      subst hx
      exact oxI ⟨rfl, _, hkK37, (by first | cbv | ((repeat (cbv; simp only [c20])); first | done | cbv))⟩
  · rintro _ ⟨v35, hkK37, rfl⟩
    have h := (eL (hK37 _ hkK37))
    refine xB ?_
    refine nT ?_
    refine AWp.seq ?_
    refine AWp.seq ?_
    refine AWp.rg hT hA {} (by cbv) (lb rfl) ?_
    refine nT ?_
    refine AWp.block ?_
    obtain ⟨xK75, hxK75, K75, hK75, hkK75⟩ := bindK h
    refine AWp.cutX 2 [] [] 1 (lb rfl) (fun τ => K75 (.inl ()) = some v76 ∧ τ = { env := [], heap := [(.map false [.int .i64] v35)], n := 46 }) ?_ ?_
    · skip
      refine AWp.iter hxK75 [5, 29, 30, 31] [] 1 (lb rfl) (fun v56 => { env := [(5, (.map 0)), (29, (.d (.list 6 x1))), (30, (.d (.int .i64 (A.len x1)))), (31, (.d (.int .i64 v56)))], heap := [(.map false [.int .i64] v35)], n := 46 }) ⟨rfl, (by cbv)⟩ ?_
      rintro v56 eK75 hsK75
      dsimp only [H99L1] at hsK75
      refine AWp.seq ?_
      refine AWp.rg hT hA {} (by cbv) (lb rfl) ?_
      refine nT ?_
      refine AWp.seq ?_
      rcases tf (A.zlt v56 (A.len x1)) with c57 | c57
      · replace hsK75 := cT c57 hsK75
        refine AWp.cdT rfl (by first | rfl | simp only [c57, Bool.not_true, Bool.not_false, cond_true, cond_false]) ?_
        refine AWp.skip ?_
        refine nT ?_
        refine AWp.seq ?_
        refine AWp.block ?_
        refine AWp.seq ?_
        obtain ⟨⟨a58, a59, a60, a61, a62, a63⟩, e64, hsK75⟩ := bindS hsK75
        obtain ⟨f65, f66⟩ := gtI e64
        refine AWp.rg hT hA { tk := [35] } (by (repeat (cbv; simp only [c57, f65, f66])); first | done | cbv) (lb rfl) ?_
        refine nT ?_
        refine AWp.seq ?_
        obtain ⟨v72, hvK73, hsK75⟩ := bindS hsK75
        refine AWp.cutN [5, 29, 30, 31, 44] [] 1 (lb rfl) (fun τ => τ = { env := [(5, (.map 0)), (29, (.d (.list 6 x1))), (30, (.d (.int .i64 (A.len x1)))), (31, (.d (.int .i64 v56))), (44, (.d (.bool v72)))], heap := [(.map false [.int .i64] v35)], n := 46 }) ?_ ?_
        · skip
          rcases tf (A.zlt 0 a63) with c67 | c67
          · replace hvK73 := cT c67 hvK73
            obtain ⟨o71, e69, hvK73⟩ := bindS hvK73
            rcases o71 with _ | a68
            · have f70 := lkN e69
              refine AWp.rg hT hA {} (by (repeat (cbv; simp only [c57, c67, f70])); first | done | cbv) (lb rfl) ?_
              cases soI hvK73
              exact oNi ⟨rfl, (by first | cbv | ((repeat (cbv; simp only [c57, c67])); first | done | cbv))⟩
            · have f70 := lkS e69
              refine AWp.rg hT hA {} (by (repeat (cbv; simp only [c57, c67, f70])); first | done | cbv) (lb rfl) ?_
              cases soI hvK73
              exact oNi ⟨rfl, (by first | cbv | ((repeat (cbv; simp only [c57, c67])); first | done | cbv))⟩
          · replace hvK73 := cF c67 hvK73
            refine AWp.rg hT hA {} (by (repeat (cbv; simp only [c57, c67])); first | done | cbv) (lb rfl) ?_
            cases soI hvK73
            exact oNi ⟨rfl, (by first | cbv | ((repeat (cbv; simp only [c57, c67])); first | done | cbv))⟩
        · rintro _ rfl
          refine nT ?_
          rcases tf v72 with c74 | c74
          · replace hsK75 := cT c74 hsK75
            refine AWp.cdT rfl (by first | rfl | simp only [c74, Bool.not_true, Bool.not_false, cond_true, cond_false]) ?_
            refine AWp.seq ?_
            refine AWp.rg hT hA {} (by (repeat (cbv; simp only [c74])); first | done | cbv) (lb rfl) ?_
            refine nT ?_
            refine AWp.ret ?_
            refine rB ?_
            refine rT ?_
            refine rT ?_
            refine exL hsK75 fun hx => ?_
            subst hx
            refine oxR ?_
            replace hkK75 := (eR (hK75 _ hkK75))
            refine rB ?_
            refine rT ?_
            cases soI hkK75
            exact ⟨rfl, rfl, rfl, lb rfl, _, rfl⟩
          · replace hsK75 := cF c74 hsK75
            refine AWp.cdF rfl (by first | rfl | simp only [c74, Bool.not_true, Bool.not_false, cond_true, cond_false]) ?_
            refine AWp.skip ?_
            refine nB ?_
            refine nT ?_
            refine AWp.rg hT hA {} (by (repeat (cbv; simp only [c74])); first | done | cbv) (lb rfl) ?_
            exact nT ⟨_, (soI hsK75).symm, rfl, (by first | cbv | ((repeat (cbv; simp only [c74])); first | done | cbv))⟩
      · replace hsK75 := cF c57 hsK75
        refine AWp.cdF rfl (by first | rfl | simp only [c57, Bool.not_true, Bool.not_false, cond_true, cond_false]) ?_
        refine AWp.exit ?_
        refine xT ?_
        refine xT ?_
        refine exL hsK75 fun hx => ?_
        subst hx
        exact oxI ⟨rfl, hkK75, (by first | cbv | ((repeat (cbv; simp only [c57])); first | done | cbv))⟩
    · rintro _ ⟨hkK75, rfl⟩
      have h := (eL (hK75 _ hkK75))
      refine xB ?_
      refine nT ?_
      refine AWp.seq ?_
      refine AWp.rg hT hA {} (by cbv) (lb rfl) ?_
      refine nT ?_
      refine AWp.ret ?_
      cases soI h
      exact ⟨rfl, rfl, rfl, lb rfl, _, rfl⟩

theorem H100w {A : Ar} (hA : A = Ar.std) {x1 : List D} {x2 : List D} {v135 : Bool} (h : H100 A x1 x2 = some v135) : ACall Try.prog 100 [(.d (.list 6 x1)), (.d (.list 1 x2)), (.func 66 [] [])] [] (.d (.bool v135)) [] := by
  unfold H100 at h
  refine ACall.enter hT (fn := Try.f100) Try.func100 rfl (by decide) (by simp [Try.f100]) rfl rfl rfl rfl (lb rfl) ?_
  refine AWp.seq ?_
  refine AWp.rg hT hA {} (by cbv) (lb rfl) ?_
  refine nT ?_
  refine AWp.seq ?_
  refine AWp.seq ?_
  refine AWp.rg hT hA {} (by cbv) (lb rfl) ?_
  refine nT ?_
  refine AWp.block ?_
  obtain ⟨xK134, hxK134, K134, hK134, hkK134⟩ := bindK h
  refine AWp.cutX 0 [] [] 0 (lb rfl) (fun τ => K134 (.inl ()) = some v135 ∧ τ = { env := [], heap := [], n := 38 }) ?_ ?_
  · skip
    refine AWp.iter hxK134 [0, 1, 2, 11, 12, 13] [] 0 (lb rfl) (fun v68 => { env := [(0, (.d (.list 6 x1))), (1, (.d (.list 1 x2))), (2, (.func 66 [] [])), (11, (.d (.list 1 x2))), (12, (.d (.int .i64 (A.len x2)))), (13, (.d (.int .i64 v68)))], heap := [], n := 38 }) ⟨rfl, (by cbv)⟩ ?_
    rintro v68 eK134 hsK134
    dsimp only [H100L1] at hsK134
    refine AWp.seq ?_
    refine AWp.rg hT hA {} (by cbv) (lb rfl) ?_
    refine nT ?_
    refine AWp.seq ?_
    rcases tf (A.zlt v68 (A.len x2)) with c69 | c69
    · replace hsK134 := cT c69 hsK134
      refine AWp.cdT rfl (by first | rfl | simp only [c69, Bool.not_true, Bool.not_false, cond_true, cond_false]) ?_
      refine AWp.skip ?_
      refine nT ?_
      refine AWp.seq ?_
      refine AWp.block ?_
      refine AWp.seq ?_
      obtain ⟨a70, e71, hsK134⟩ := bindS hsK134
      obtain ⟨f72, f73⟩ := gtI e71
      refine AWp.rg hT hA {} (by (repeat (cbv; simp only [c69, f72, f73])); first | done | cbv) (lb rfl) ?_
      refine nT ?_
      refine AWp.seq ?_
      obtain ⟨l74, e75, hsK134⟩ := bindS hsK134
      obtain ⟨f76, f77, f78, f79⟩ := slI e75
      refine AWp.rg hT hA {} (by (repeat (cbv; simp only [c69, f76, f77, f78, f79])); first | done | cbv) (lb rfl) ?_
      refine nT ?_
      refine AWp.block ?_
      obtain ⟨xK133, hxK133, K133, hK133, hkK133⟩ := bindK hsK134
      refine AWp.cutX 2 [0, 1, 2, 11, 12, 13] [] 0 (lb rfl) (fun τ => K133 (.inl ()) = some eK134 ∧ τ = { env := [(0, (.d (.list 6 x1))), (1, (.d (.list 1 x2))), (2, (.func 66 [] [])), (11, (.d (.list 1 x2))), (12, (.d (.int .i64 (A.len x2)))), (13, (.d (.int .i64 v68)))], heap := [], n := 38 }) ?_ ?_
      · skip
        refine AWp.iter hxK133 [0, 1, 2, 8, 11, 12, 13, 20, 21, 22] [] 0 (lb rfl) (fun v106 => { env := [(0, (.d (.list 6 x1))), (1, (.d (.list 1 x2))), (2, (.func 66 [] [])), (8, (.d (.int .i64 a70))), (11, (.d (.list 1 x2))), (12, (.d (.int .i64 (A.len x2)))), (13, (.d (.int .i64 v68))), (20, (.d (.list 1 l74))), (21, (.d (.int .i64 (A.len l74)))), (22, (.d (.int .i64 v106)))], heap := [], n := 38 }) ⟨rfl, (by first | cbv | ((repeat (cbv; simp only [c69])); first | done | cbv))⟩ ?_
        rintro v106 eK133 hsK133
        dsimp only [H100L0] at hsK133
        refine AWp.seq ?_
        refine AWp.rg hT hA {} (by cbv) (lb rfl) ?_
        refine nT ?_
        refine AWp.seq ?_
        rcases tf (A.zlt v106 (A.len l74)) with c107 | c107
        · replace hsK133 := cT c107 hsK133
          refine AWp.cdT rfl (by first | rfl | simp only [c107, Bool.not_true, Bool.not_false, cond_true, cond_false]) ?_
          refine AWp.skip ?_
          refine nT ?_
          refine AWp.seq ?_
          refine AWp.block ?_
          refine AWp.seq ?_
          obtain ⟨a108, e109, hsK133⟩ := bindS hsK133
          obtain ⟨f110, f111⟩ := gtI e109
          refine AWp.rg hT hA {} (by (repeat (cbv; simp only [c107, f110, f111])); first | done | cbv) (lb rfl) ?_
          refine nT ?_
          refine AWp.seq ?_
          refine AWp.regionDraw rfl (lb rfl) ?_
          obtain ⟨⟨a112, a113, a114, a115, a116, a117⟩, e118, hsK133⟩ := bindS hsK133
          obtain ⟨f119, f120⟩ := gtI e118
          obtain ⟨⟨a121, a122, a123, a124, a125, a126⟩, e127, hsK133⟩ := bindS hsK133
          obtain ⟨f128, f129⟩ := gtI e127
          obtain ⟨r131, e130, hsK133⟩ := bindS hsK133
          refine DOps.c0 hT hA {} rfl (by (repeat (cbv; simp only [c107, f119, f120, f128, f129])); first | done | cbv) (H66w hA e130) rfl rfl (lb rfl) rfl rfl ?_
          refine DOps.cd hT hA {} rfl (by (repeat (cbv; simp only [c107, f119, f120, f128, f129])); first | done | cbv) (by kernel_rfl) ?_
          refine nT ?_
          rcases tf r131 with c132 | c132
          · replace hsK133 := cT c132 hsK133
            refine AWp.cdT rfl (by first | rfl | simp only [c107, c132, Bool.not_true, Bool.not_false, cond_true, cond_false]) ?_
            refine AWp.seq ?_
            refine AWp.rg hT hA {} (by (repeat (cbv; simp only [c107, c132])); first | done | cbv) (lb rfl) ?_
            refine nT ?_
            refine AWp.ret ?_
            refine rB ?_
            refine rT ?_
            refine rT ?_
            refine exL hsK133 fun hx => ?_
            subst hx
            refine oxR ?_
            replace hkK133 := (eR (hK133 _ hkK133))
            refine rB ?_
            refine rB ?_
            refine rT ?_
            refine rT ?_
            refine exL hkK133 fun hx => ?_
            subst hx
            refine oxR ?_
            replace hkK134 := (eR (hK134 _ hkK134))
            refine rB ?_
            refine rT ?_
            cases soI hkK134
            exact ⟨rfl, rfl, rfl, lb rfl, _, rfl⟩
          · replace hsK133 := cF c132 hsK133
            refine AWp.cdF rfl (by first | rfl | simp only [c107, c132, Bool.not_true, Bool.not_false, cond_true, cond_false]) ?_
            refine AWp.skip ?_
            refine nB ?_
            refine nT ?_
            refine AWp.rg hT hA {} (by (repeat (cbv; simp only [c107, c132])); first | done | cbv) (lb rfl) ?_
            exact nT ⟨_, (soI hsK133).symm, rfl, (by first | cbv | ((repeat (cbv; simp only [c107, c132])); first | done | cbv))⟩
        · replace hsK133 := cF c107 hsK133
          refine AWp.cdF rfl (by first | rfl | simp only [c107, Bool.not_true, Bool.not_false, cond_true, cond_false]) ?_
          refine AWp.exit ?_
          refine xT ?_
          refine xT ?_
          refine exL hsK133 fun hx => ?_
          subst hx
          exact oxI ⟨rfl, hkK133, (by first | cbv | ((repeat (cbv; simp only [c107])); first | done | cbv))⟩
      · rintro _ ⟨hkK133, rfl⟩
        have hsK134 := (eL (hK133 _ hkK133))
        refine xB ?_
        refine nB ?_
        refine nT ?_
        refine AWp.rg hT hA {} (by cbv) (lb rfl) ?_
        exact nT ⟨_, (soI hsK134).symm, rfl, (by cbv)⟩
    · replace hsK134 := cF c69 hsK134
      refine AWp.cdF rfl (by first | rfl | simp only [c69, Bool.not_true, Bool.not_false, cond_true, cond_false]) ?_
      refine AWp.exit ?_
      refine xT ?_
      refine xT ?_
      refine exL hsK134 fun hx => ?_
      subst hx
      exact oxI ⟨rfl, hkK134, (by first | cbv | ((repeat (cbv; simp only [c69])); first | done | cbv))⟩
  · rintro _ ⟨hkK134, rfl⟩
    have h := (eL (hK134 _ hkK134))
    refine xB ?_
    refine nT ?_
    refine AWp.seq ?_
    refine AWp.rg hT hA {} (by cbv) (lb rfl) ?_
    refine nT ?_
    refine AWp.ret ?_
    cases soI h
    exact ⟨rfl, rfl, rfl, lb rfl, _, rfl⟩

theorem H101w {A : Ar} (hA : A = Ar.std) {x1 : List D} {x2 : List D} {x3 : List D} {v46 : Bool} (h : H101 A x1 x2 x3 = some v46) : ACall Try.prog 101 [(.d (.list 4 x1)), (.d (.list 6 x2)), (.d (.list 1 x3))] [] (.d (.bool v46)) [] := by
  unfold H101 at h
  refine ACall.enter hT (fn := Try.f101) Try.func101 rfl (by decide) (by simp [Try.f101]) rfl rfl rfl rfl (lb rfl) ?_
  refine AWp.seq ?_
  refine AWp.rg hT hA {} (by cbv) (lb rfl) ?_
  refine nT ?_
  refine AWp.seq ?_
  refine AWp.rg hT hA {} (by cbv) (lb rfl) ?_
  refine nT ?_
  refine AWp.seq ?_
  refine AWp.rg hT hA {} (by cbv) (lb rfl) ?_
  refine nT ?_
  refine AWp.seq ?_
  refine AWp.seq ?_
  refine AWp.rg hT hA {} (by cbv) (lb rfl) ?_
  refine nT ?_
  refine AWp.block ?_
  obtain ⟨xK45, hxK45, K45, hK45, hkK45⟩ := bindK h
  refine AWp.cutX 0 [] [] 0 (lb rfl) (fun τ => K45 (.inl ()) = some v46 ∧ τ = { env := [], heap := [], n := 30 }) ?_ ?_
  · skip
    refine AWp.iter hxK45 [0, 1, 7, 11, 12, 13] [] 0 (lb rfl) (fun (v23, v24, v25) => { env := [(0, (.d (.list 4 x1))), (1, (.d (.list 6 x2))), (7, (.lbox [(.d (.int .i64 v23)), (.d (.int .i64 v24))])), (11, (.d (.list 1 x3))), (12, (.d (.int .i64 (A.len x3)))), (13, (.d (.int .i64 v25)))], heap := [], n := 30 }) ⟨rfl, (by cbv)⟩ ?_
    rintro ⟨v23, v24, v25⟩ eK45 hsK45
    dsimp only [H101L0] at hsK45
    refine AWp.seq ?_
    refine AWp.rg hT hA {} (by cbv) (lb rfl) ?_
    refine nT ?_
    refine AWp.seq ?_
    rcases tf (A.zlt v25 (A.len x3)) with c26 | c26
    · replace hsK45 := cT c26 hsK45
      refine AWp.cdT rfl (by first | rfl | simp only [c26, Bool.not_true, Bool.not_false, cond_true, cond_false]) ?_
      refine AWp.skip ?_
      refine nT ?_
      refine AWp.seq ?_
      refine AWp.block ?_
      refine AWp.seq ?_
      obtain ⟨a27, e28, hsK45⟩ := bindS hsK45
      obtain ⟨f29, f30⟩ := gtI e28
      refine AWp.rg hT hA {} (by (repeat (cbv; simp only [c26, f29, f30])); first | done | cbv) (lb rfl) ?_
      refine nT ?_
      refine AWp.seq ?_
      refine AWp.regionDraw rfl (lb rfl) ?_
      obtain ⟨⟨a31, a32, a33, a34, a35, a36⟩, e37, hsK45⟩ := bindS hsK45
      obtain ⟨f38, f39⟩ := gtI e37
      obtain ⟨⟨r41, r42, r43⟩, e40, hsK45⟩ := bindS hsK45
      refine DOps.c0 hT hA { tk := [25] } rfl (by (repeat (cbv; simp only [c26, f38, f39])); first | done | cbv) (H78aw hA e40) rfl rfl (lb rfl) rfl rfl ?_
      refine DOps.cd hT hA { tk := [25] } rfl (by (repeat (cbv; simp only [c26, f38, f39])); first | done | cbv) (by kernel_rfl) ?_
      refine nT ?_
      refine AWp.seq ?_
      refine AWp.rg hT hA {} (by (repeat (cbv; simp only [c26])); first | done | cbv) (lb rfl) ?_
      refine nT ?_
      rcases tf r43 with c44 | c44
      · replace hsK45 := cT c44 hsK45
        refine AWp.cdF rfl (by first | rfl | simp only [c26, c44, Bool.not_true, Bool.not_false, cond_true, cond_false]) ?_
        refine AWp.skip ?_
        refine nB ?_
        refine nT ?_
        refine AWp.rg hT hA {} (by (repeat (cbv; simp only [c26, c44])); first | done | cbv) (lb rfl) ?_
        exact nT ⟨_, (soI hsK45).symm, rfl, (by first | cbv | ((repeat (cbv; simp only [c26, c44])); first | done | cbv))⟩
      · replace hsK45 := cF c44 hsK45
        refine AWp.cdT rfl (by first | rfl | simp only [c26, c44, Bool.not_true, Bool.not_false, cond_true, cond_false]) ?_
        refine AWp.seq ?_
        refine AWp.rg hT hA {} (by (repeat (cbv; simp only [c26, c44])); first | done | cbv) (lb rfl) ?_
        refine nT ?_
        refine AWp.ret ?_
        refine rB ?_
        refine rT ?_
        refine rT ?_
        refine exL hsK45 fun hx => ?_
        subst hx
        refine oxR ?_
        replace hkK45 := (eR (hK45 _ hkK45))
        refine rB ?_
        refine rT ?_
        cases soI hkK45
        exact ⟨rfl, rfl, rfl, lb rfl, _, rfl⟩
    · replace hsK45 := cF c26 hsK45
      refine AWp.cdF rfl (by first | rfl | simp only [c26, Bool.not_true, Bool.not_false, cond_true, cond_false]) ?_
      refine AWp.exit ?_
      refine xT ?_
      refine xT ?_
      refine exL hsK45 fun hx => ?_
      subst hx
      exact oxI ⟨rfl, hkK45, (by first | cbv | ((repeat (cbv; simp only [c26])); first | done | cbv))⟩
  · rintro _ ⟨hkK45, rfl⟩
    have h := (eL (hK45 _ hkK45))
    refine xB ?_
    refine nT ?_
    refine AWp.seq ?_
    refine AWp.rg hT hA {} (by cbv) (lb rfl) ?_
    refine nT ?_
    refine AWp.ret ?_
    cases soI h
    exact ⟨rfl, rfl, rfl, lb rfl, _, rfl⟩

theorem H46w {A : Ar} (hA : A = Ar.std) {x1 : List D} {x2 : List D} {x3 : List D} {v17 : Bool} {v18 : Int} (h : H46 A x1 x2 x3 = some (v17, v18)) : ACall Try.prog 46 [(.d (.list 4 x1)), (.d (.list 6 x2)), (.d (.list 1 x3))] [] (.tuple [(.d (.bool v17)), (.d (.int .i64 v18))]) [] := by
  unfold H46 at h
  refine ACall.enter hT (fn := Try.f46) Try.func46 rfl (by decide) (by simp [Try.f46]) rfl rfl rfl rfl (lb rfl) ?_
  refine AWp.seq ?_
  refine AWp.rg hT hA {} (by cbv) (lb rfl) ?_
  refine nT ?_
  refine AWp.seq ?_
  refine AWp.seq ?_
  refine AWp.region ?_
  obtain ⟨r5, e4, h⟩ := bindS h
  refine AOps.cc hT hA {} (by cbv) (lb rfl) (H71w hA e4) rfl (.inl rfl) rfl rfl rfl (lb rfl) rfl rfl ?_
  refine AOps.cd hT hA {} (by cbv) (lb rfl) ?_
  refine nT ?_
  refine AWp.seq ?_
  refine AWp.rg hT hA {} (by cbv) (lb rfl) ?_
  refine nT ?_
  rcases tf (A.zeq r5 0) with c6 | c6
  · replace h := cT c6 h
    refine AWp.cdF rfl (by first | rfl | simp only [c6, Bool.not_true, Bool.not_false, cond_true, cond_false]) ?_
    refine AWp.skip ?_
    refine nT ?_
    refine AWp.seq ?_
    obtain ⟨v15, hvK16, h⟩ := bindS h
    refine AWp.cutN [6, 7] [] 0 (lb rfl) (fun τ => τ = { env := [(6, (.d (.bool v15))), (7, (.d (.int .i64 0)))], heap := [], n := 29 }) ?_ ?_
    · skip
      refine AWp.region ?_
      obtain ⟨r8, e7, hvK16⟩ := bindS hvK16
      refine AOps.cc hT hA {} (by (repeat (cbv; simp only [c6])); first | done | cbv) (lb rfl) (H99w hA e7) rfl (.inl rfl) rfl rfl rfl (lb rfl) rfl rfl ?_
      rcases tf r8 with c9 | c9
      · replace hvK16 := cT c9 hvK16
        obtain ⟨r11, e10, hvK16⟩ := bindS hvK16
        refine AOps.cc hT hA {} (by (repeat (cbv; simp only [c6, c9])); first | done | cbv) (lb rfl) (H100w hA e10) rfl (.inl rfl) rfl rfl rfl (lb rfl) rfl rfl ?_
        rcases tf r11 with c12 | c12
        · replace hvK16 := cT c12 hvK16
          obtain ⟨r14, e13, hvK16⟩ := bindS hvK16
          refine AOps.cc hT hA {} (by (repeat (cbv; simp only [c6, c9, c12])); first | done | cbv) (lb rfl) (H101w hA e13) rfl (.inl rfl) rfl rfl rfl (lb rfl) rfl rfl ?_
          refine AOps.cd hT hA {} (by (repeat (cbv; simp only [c6, c9, c12])); first | done | cbv) (lb rfl) ?_
          cases soI hvK16
          exact oNi ⟨rfl, (by first | cbv | ((repeat (cbv; simp only [c6, c9, c12])); first | done | cbv))⟩
        · replace hvK16 := cF c12 hvK16
          refine AOps.cd hT hA {} (by (repeat (cbv; simp only [c6, c9, c12])); first | done | cbv) (lb rfl) ?_
          cases soI hvK16
          exact oNi ⟨rfl, (by first | cbv | ((repeat (cbv; simp only [c6, c9, c12])); first | done | cbv))⟩
      · replace hvK16 := cF c9 hvK16
        refine AOps.cd hT hA {} (by (repeat (cbv; simp only [c6, c9])); first | done | cbv) (lb rfl) ?_
        cases soI hvK16
        exact oNi ⟨rfl, (by first | cbv | ((repeat (cbv; simp only [c6, c9])); first | done | cbv))⟩
    · rintro _ rfl
      refine nT ?_
      refine AWp.ret ?_
      cases soI h
      exact ⟨rfl, rfl, rfl, lb rfl, _, rfl⟩
  · replace h := cF c6 h
    refine AWp.cdT rfl (by first | rfl | simp only [c6, Bool.not_true, Bool.not_false, cond_true, cond_false]) ?_
    refine AWp.seq ?_
    refine AWp.rg hT hA {} (by (repeat (cbv; simp only [c6])); first | done | cbv) (lb rfl) ?_
    refine nT ?_
    refine AWp.ret ?_
    refine rT ?_
    cases soI h
    exact ⟨rfl, rfl, rfl, lb rfl, _, rfl⟩

theorem H106w {A : Ar} (hA : A = Ar.std) {x1 : List D} {x2 : List D} {v5 : Bool} (h : H106 A x1 x2 = some v5) : ACall Try.prog 106 [(.ptr 0 0), (.ptr 1 0)] [(.cells [(.d (.list 6 x1))]), (.cells [(.d (.list 1 x2))])] (.d (.bool v5)) [(.cells [(.d (.list 6 x1))]), (.cells [(.d (.list 1 x2))])] := by
  unfold H106 at h
  refine ACall.enter hT (fn := Try.f106) Try.func106 rfl (by decide) (by simp [Try.f106]) rfl rfl rfl rfl (lb rfl) ?_
  refine AWp.seq ?_
  refine AWp.rg hT hA {} (by cbv) (lb rfl) ?_
  refine nT ?_
  refine AWp.seq ?_
  refine AWp.region ?_
  obtain ⟨r4, e3, h⟩ := bindS h
  refine AOps.cc hT hA { tk := [5] } (by cbv) (lb rfl) (H99w hA e3) rfl (.inr rfl) rfl rfl rfl (lb rfl) rfl rfl ?_
  refine AOps.cd hT hA { tk := [5] } (by cbv) (lb rfl) ?_
  refine nT ?_
  refine AWp.ret ?_
  cases soI h
  exact ⟨rfl, rfl, rfl, lb rfl, _, rfl⟩

theorem H100aw {A : Ar} (hA : A = Ar.std) {x1 : List D} {x2 : List D} {v135 : Bool} (h : H100a A x1 x2 = some v135) : ACall Try.prog 100 [(.d (.list 6 x1)), (.d (.list 1 x2)), (.func 73 [] [])] [] (.d (.bool v135)) [] := by
  unfold H100a at h
  refine ACall.enter hT (fn := Try.f100) Try.func100 rfl (by decide) (by simp [Try.f100]) rfl rfl rfl rfl (lb rfl) ?_
  refine AWp.seq ?_
  refine AWp.rg hT hA {} (by cbv) (lb rfl) ?_
  refine nT ?_
  refine AWp.seq ?_
  refine AWp.seq ?_
  refine AWp.rg hT hA {} (by cbv) (lb rfl) ?_
  refine nT ?_
  refine AWp.block ?_
  obtain ⟨xK134, hxK134, K134, hK134, hkK134⟩ := bindK h
  refine AWp.cutX 0 [] [] 0 (lb rfl) (fun τ => K134 (.inl ()) = some v135 ∧ τ = { env := [], heap := [], n := 38 }) ?_ ?_
  · skip
    refine AWp.iter hxK134 [0, 1, 2, 11, 12, 13] [] 0 (lb rfl) (fun v68 => { env := [(0, (.d (.list 6 x1))), (1, (.d (.list 1 x2))), (2, (.func 73 [] [])), (11, (.d (.list 1 x2))), (12, (.d (.int .i64 (A.len x2)))), (13, (.d (.int .i64 v68)))], heap := [], n := 38 }) ⟨rfl, (by cbv)⟩ ?_
    rintro v68 eK134 hsK134
    dsimp only [H100aL1] at hsK134
    refine AWp.seq ?_
    refine AWp.rg hT hA {} (by cbv) (lb rfl) ?_
    refine nT ?_
    refine AWp.seq ?_
    rcases tf (A.zlt v68 (A.len x2)) with c69 | c69
    · replace hsK134 := cT c69 hsK134
      refine AWp.cdT rfl (by first | rfl | simp only [c69, Bool.not_true, Bool.not_false, cond_true, cond_false]) ?_
      refine AWp.skip ?_
      refine nT ?_
      refine AWp.seq ?_
      refine AWp.block ?_
      refine AWp.seq ?_
      obtain ⟨a70, e71, hsK134⟩ := bindS hsK134
      obtain ⟨f72, f73⟩ := gtI e71
      refine AWp.rg hT hA {} (by (repeat (cbv; simp only [c69, f72, f73])); first | done | cbv) (lb rfl) ?_
      refine nT ?_
      refine AWp.seq ?_
      obtain ⟨l74, e75, hsK134⟩ := bindS hsK134
      obtain ⟨f76, f77, f78, f79⟩ := slI e75
      refine AWp.rg hT hA {} (by (repeat (cbv; simp only [c69, f76, f77, f78, f79])); first | done | cbv) (lb rfl) ?_
      refine nT ?_
      refine AWp.block ?_
      obtain ⟨xK133, hxK133, K133, hK133, hkK133⟩ := bindK hsK134
      refine AWp.cutX 2 [0, 1, 2, 11, 12, 13] [] 0 (lb rfl) (fun τ => K133 (.inl ()) = some eK134 ∧ τ = { env := [(0, (.d (.list 6 x1))), (1, (.d (.list 1 x2))), (2, (.func 73 [] [])), (11, (.d (.list 1 x2))), (12, (.d (.int .i64 (A.len x2)))), (13, (.d (.int .i64 v68)))], heap := [], n := 38 }) ?_ ?_
      · skip
        refine AWp.iter hxK133 [0, 1, 2, 8, 11, 12, 13, 20, 21, 22] [] 0 (lb rfl) (fun v106 => { env := [(0, (.d (.list 6 x1))), (1, (.d (.list 1 x2))), (2, (.func 73 [] [])), (8, (.d (.int .i64 a70))), (11, (.d (.list 1 x2))), (12, (.d (.int .i64 (A.len x2)))), (13, (.d (.int .i64 v68))), (20, (.d (.list 1 l74))), (21, (.d (.int .i64 (A.len l74)))), (22, (.d (.int .i64 v106)))], heap := [], n := 38 }) ⟨rfl, (by first | cbv | ((repeat (cbv; simp only [c69])); first | done | cbv))⟩ ?_
        rintro v106 eK133 hsK133
        dsimp only [H100aL0] at hsK133
        refine AWp.seq ?_
        refine AWp.rg hT hA {} (by cbv) (lb rfl) ?_
        refine nT ?_
        refine AWp.seq ?_
        rcases tf (A.zlt v106 (A.len l74)) with c107 | c107
        · replace hsK133 := cT c107 hsK133
          refine AWp.cdT rfl (by first | rfl | simp only [c107, Bool.not_true, Bool.not_false, cond_true, cond_false]) ?_
          refine AWp.skip ?_
          refine nT ?_
          refine AWp.seq ?_
          refine AWp.block ?_
          refine AWp.seq ?_
          obtain ⟨a108, e109, hsK133⟩ := bindS hsK133
          obtain ⟨f110, f111⟩ := gtI e109
          refine AWp.rg hT hA {} (by (repeat (cbv; simp only [c107, f110, f111])); first | done | cbv) (lb rfl) ?_
          refine nT ?_
          refine AWp.seq ?_
          refine AWp.regionDraw rfl (lb rfl) ?_
          obtain ⟨⟨a112, a113, a114, a115, a116, a117⟩, e118, hsK133⟩ := bindS hsK133
          obtain ⟨f119, f120⟩ := gtI e118
          obtain ⟨⟨a121, a122, a123, a124, a125, a126⟩, e127, hsK133⟩ := bindS hsK133
          obtain ⟨f128, f129⟩ := gtI e127
          obtain ⟨r131, e130, hsK133⟩ := bindS hsK133
          refine DOps.c0 hT hA {} rfl (by (repeat (cbv; simp only [c107, f119, f120, f128, f129])); first | done | cbv) (H73aw hA e130) rfl rfl (lb rfl) rfl rfl ?_
          refine DOps.cd hT hA {} rfl (by (repeat (cbv; simp only [c107, f119, f120, f128, f129])); first | done | cbv) (by kernel_rfl) ?_
          refine nT ?_
          rcases tf r131 with c132 | c132
          · replace hsK133 := cT c132 hsK133
            refine AWp.cdT rfl (by first | rfl | simp only [c107, c132, Bool.not_true, Bool.not_false, cond_true, cond_false]) ?_
            refine AWp.seq ?_
            refine AWp.rg hT hA {} (by (repeat (cbv; simp only [c107, c132])); first | done | cbv) (lb rfl) ?_
            refine nT ?_
            refine AWp.ret ?_
            refine rB ?_
            refine rT ?_
            refine rT ?_
            refine exL hsK133 fun hx => ?_
            subst hx
            refine oxR ?_
            replace hkK133 := (eR (hK133 _ hkK133))
            refine rB ?_
            refine rB ?_
            refine rT ?_
            refine rT ?_
            refine exL hkK133 fun hx => ?_
            subst hx
            refine oxR ?_
            replace hkK134 := (eR (hK134 _ hkK134))
            refine rB ?_
            refine rT ?_
            cases soI hkK134
            exact ⟨rfl, rfl, rfl, lb rfl, _, rfl⟩
          · replace hsK133 := cF c132 hsK133
            refine AWp.cdF rfl (by first | rfl | simp only [c107, c132, Bool.not_true, Bool.not_false, cond_true, cond_false]) ?_
            refine AWp.skip ?_
            refine nB ?_
            refine nT ?_
            refine AWp.rg hT hA {} (by (repeat (cbv; simp only [c107, c132])); first | done | cbv) (lb rfl) ?_
            exact nT ⟨_, (soI hsK133).symm, rfl, (by first | cbv | ((repeat (cbv; simp only [c107, c132])); first | done | cbv))⟩
        · replace hsK133 := cF c107 hsK133
          refine AWp.cdF rfl (by first | rfl | simp only [c107, Bool.not_true, Bool.not_false, cond_true, cond_false]) ?_
          refine AWp.exit ?_
          refine xT ?_
          refine xT ?_
          refine exL hsK133 fun hx => ?_
          subst hx
          exact oxI ⟨rfl, hkK133, (by first | cbv | ((repeat (cbv; simp only [c107])); first | done | cbv))⟩
      · rintro _ ⟨hkK133, rfl⟩
        have hsK134 := (eL (hK133 _ hkK133))
        refine xB ?_
        refine nB ?_
        refine nT ?_
        refine AWp.rg hT hA {} (by cbv) (lb rfl) ?_
        exact nT ⟨_, (soI hsK134).symm, rfl, (by cbv)⟩
    · replace hsK134 := cF c69 hsK134
      refine AWp.cdF rfl (by first | rfl | simp only [c69, Bool.not_true, Bool.not_false, cond_true, cond_false]) ?_
      refine AWp.exit ?_
      refine xT ?_
      refine xT ?_
      refine exL hsK134 fun hx => ?_
      subst hx
      exact oxI ⟨rfl, hkK134, (by first | cbv | ((repeat (cbv; simp only [c69])); first | done | cbv))⟩
  · rintro _ ⟨hkK134, rfl⟩
    have h := (eL (hK134 _ hkK134))
    refine xB ?_
    refine nT ?_
    refine AWp.seq ?_
    refine AWp.rg hT hA {} (by cbv) (lb rfl) ?_
    refine nT ?_
    refine AWp.ret ?_
    cases soI h
    exact ⟨rfl, rfl, rfl, lb rfl, _, rfl⟩

theorem H107w {A : Ar} (hA : A = Ar.std) {x1 : List D} {x2 : List D} {v7 : Bool} {v8 : Bool} (h : H107 A x1 x2 = some (v7, v8)) : ACall Try.prog 107 [(.ptr 0 0), (.ptr 1 0)] [(.cells [(.d (.list 6 x1))]), (.cells [(.d (.list 1 x2))])] (.d (.agg [(.bool v7), (.bool v8)])) [(.cells [(.d (.list 6 x1))]), (.cells [(.d (.list 1 x2))])] := by
  unfold H107 at h
  refine ACall.enter hT (fn := Try.f107) Try.func107 rfl (by decide) (by simp [Try.f107]) rfl rfl rfl rfl (lb rfl) ?_
  refine AWp.seq ?_
  refine AWp.rg hT hA {} (by cbv) (lb rfl) ?_
  refine nT ?_
  refine AWp.seq ?_
  refine AWp.regionDraw rfl (lb rfl) ?_
  obtain ⟨r4, e3, h⟩ := bindS h
  refine DOps.c0 hT hA { tk := [9] } rfl (by cbv) (H100w hA e3) rfl rfl (lb rfl) rfl rfl ?_
  obtain ⟨r6, e5, h⟩ := bindS h
  refine DOps.c0 hT hA { tk := [9] } rfl (by cbv) (H100aw hA e5) rfl rfl (lb rfl) rfl rfl ?_
  refine DOps.cd hT hA { tk := [9] } rfl (by cbv) (by kernel_rfl) ?_
  refine nT ?_
  refine AWp.ret ?_
  cases soI h
  exact ⟨rfl, rfl, rfl, lb rfl, _, rfl⟩

theorem H105w {A : Ar} (hA : A = Ar.std) {x1 : List D} {x2 : List D} {x3 : List D} {v13 : Bool} {v14 : Bool} {v15 : Int} (h : H105 A x1 x2 x3 = some (v13, v14, v15)) : ACall Try.prog 105 [(.d (.list 6 x1)), (.func 106 [] [(.ptr 0 0), (.ptr 1 0)]), (.func 107 [] [(.ptr 0 0), (.ptr 1 0)])] [(.cells [(.d (.list 6 x2))]), (.cells [(.d (.list 1 x3))])] (.tuple [(.d (.agg [(.bool v13), (.bool v14)])), (.d (.int .i64 v15))]) [(.cells [(.d (.list 6 x2))]), (.cells [(.d (.list 1 x3))])] := by
  unfold H105 at h
  refine ACall.enter hT (fn := Try.f105) Try.func105 rfl (by decide) (by simp [Try.f105]) rfl rfl rfl rfl (lb rfl) ?_
  refine AWp.seq ?_
  refine AWp.rg hT hA {} (by cbv) (lb rfl) ?_
  refine nT ?_
  refine AWp.seq ?_
  refine AWp.rg hT hA {} (by cbv) (lb rfl) ?_
  refine nT ?_
  refine AWp.seq ?_
  refine AWp.block ?_
  refine AWp.seq ?_
  refine AWp.region ?_
  obtain ⟨r5, e4, h⟩ := bindS h
  refine AOps.cc hT hA {} (by cbv) (lb rfl) (H24w hA e4) rfl (.inr rfl) rfl rfl rfl (lb rfl) rfl rfl ?_
  refine AOps.cd hT hA {} (by cbv) (lb rfl) ?_
  refine nT ?_
  rcases tf r5 with c6 | c6
  · replace h := cT c6 h
    refine AWp.cdF rfl (by first | rfl | simp only [c6, Bool.not_true, Bool.not_false, cond_true, cond_false]) ?_
    refine AWp.seq ?_
    refine AWp.region ?_
    obtain ⟨r8, e7, h⟩ := bindS h
    refine AOps.cc hT hA {} (by (repeat (cbv; simp only [c6])); first | done | cbv) (lb rfl) (H106w hA e7) rfl (.inl rfl) rfl rfl rfl (lb rfl) rfl rfl ?_
    refine AOps.cd hT hA {} (by (repeat (cbv; simp only [c6])); first | done | cbv) (lb rfl) ?_
    refine nT ?_
    rcases tf r8 with c9 | c9
    · replace h := cT c9 h
      refine AWp.cdF rfl (by first | rfl | simp only [c6, c9, Bool.not_true, Bool.not_false, cond_true, cond_false]) ?_
      refine AWp.skip ?_
      refine nB ?_
      refine nT ?_
      refine AWp.seq ?_
      refine AWp.region ?_
      obtain ⟨⟨r11, r12⟩, e10, h⟩ := bindS h
      refine AOps.cc hT hA { tk := [20] } (by (repeat (cbv; simp only [c6, c9])); first | done | cbv) (lb rfl) (H107w hA e10) rfl (.inl rfl) rfl rfl rfl (lb rfl) rfl rfl ?_
      refine AOps.cd hT hA { tk := [20] } (by (repeat (cbv; simp only [c6, c9])); first | done | cbv) (lb rfl) ?_
      refine nT ?_
      refine AWp.ret ?_
      cases soI h
      exact ⟨rfl, rfl, rfl, lb rfl, _, rfl⟩
    · replace h := cF c9 h
      refine AWp.cdT rfl (by first | rfl | simp only [c6, c9, Bool.not_true, Bool.not_false, cond_true, cond_false]) ?_
      refine AWp.seq ?_
      refine AWp.rg hT hA { tk := [18] } (by (repeat (cbv; simp only [c6, c9])); first | done | cbv) (lb rfl) ?_
      refine nT ?_
      refine AWp.ret ?_
      refine rB ?_
      refine rT ?_
      cases soI h
      exact ⟨rfl, rfl, rfl, lb rfl, _, rfl⟩
  · replace h := cF c6 h
    refine AWp.cdT rfl (by first | rfl | simp only [c6, Bool.not_true, Bool.not_false, cond_true, cond_false]) ?_
    refine AWp.seq ?_
    refine AWp.rg hT hA { tk := [13] } (by (repeat (cbv; simp only [c6])); first | done | cbv) (lb rfl) ?_
    refine nT ?_
    refine AWp.ret ?_
    refine rB ?_
    refine rT ?_
    cases soI h
    exact ⟨rfl, rfl, rfl, lb rfl, _, rfl⟩

theorem H51w {A : Ar} (hA : A = Ar.std) {x1 : List D} {x2 : List D} {v7 : Bool} {v8 : Bool} {v9 : Int} (h : H51 A x1 x2 = some (v7, v8, v9)) : ACall Try.prog 51 [(.d (.list 6 x1)), (.d (.list 1 x2))] [] (.tuple [(.d (.bool v7)), (.d (.bool v8)), (.d (.int .i64 v9))]) [] := by
  unfold H51 at h
  refine ACall.enter hT (fn := Try.f51) Try.func51 rfl (by decide) (by simp [Try.f51]) rfl rfl rfl rfl (lb rfl) ?_
  refine AWp.seq ?_
  refine AWp.rg hT hA { esc := [2, 3] } (by cbv) (lb rfl) ?_
  refine nT ?_
  refine AWp.seq ?_
  refine AWp.region ?_
  obtain ⟨⟨r4, r5, r6⟩, e3, h⟩ := bindS h
  refine AOps.cc hT hA { tk := [14] } (by cbv) (lb rfl) (H105w hA e3) rfl (.inl rfl) rfl rfl rfl (lb rfl) rfl rfl ?_
  refine AOps.cd hT hA { tk := [14] } (by cbv) (lb rfl) ?_
  refine nT ?_
  refine AWp.seq ?_
  refine AWp.rd hT hA {} rfl (by cbv) (by kernel_rfl) (lb rfl) ?_
  refine nT ?_
  refine AWp.ret ?_
  cases soI h
  exact ⟨rfl, rfl, rfl, lb rfl, _, rfl⟩

theorem H53w {A : Ar} (hA : A = Ar.std) {x1 : List D} {x2 : List D} {x3 : List D} {v12 : Bool} {v13 : Int} (h : H53 A x1 x2 x3 = some (v12, v13)) : ACall Try.prog 53 [(.d (.list 4 x1)), (.d (.list 6 x2)), (.d (.list 1 x3))] [] (.tuple [(.d (.bool v12)), (.d (.int .i64 v13))]) [] := by
  unfold H53 at h
  refine ACall.enter hT (fn := Try.f53) Try.func53 rfl (by decide) (by simp [Try.f53]) rfl rfl rfl rfl (lb rfl) ?_
  refine AWp.seq ?_
  refine AWp.rg hT hA {} (by cbv) (lb rfl) ?_
  refine nT ?_
  refine AWp.seq ?_
  refine AWp.seq ?_
  refine AWp.region ?_
  obtain ⟨r5, e4, h⟩ := bindS h
  refine AOps.cc hT hA {} (by cbv) (lb rfl) (H71w hA e4) rfl (.inl rfl) rfl rfl rfl (lb rfl) rfl rfl ?_
  refine AOps.cd hT hA {} (by cbv) (lb rfl) ?_
  refine nT ?_
  refine AWp.block ?_
  refine AWp.seq ?_
  refine AWp.rg hT hA {} (by cbv) (lb rfl) ?_
  refine nT ?_
  rcases tf (A.zeq r5 0) with c6 | c6
  · replace h := cT c6 h
    refine AWp.cdF rfl (by first | rfl | simp only [c6, Bool.not_true, Bool.not_false, cond_true, cond_false]) ?_
    refine AWp.seq ?_
    refine AWp.region ?_
    obtain ⟨r8, e7, h⟩ := bindS h
    refine AOps.cc hT hA {} (by (repeat (cbv; simp only [c6])); first | done | cbv) (lb rfl) (H99w hA e7) rfl (.inl rfl) rfl rfl rfl (lb rfl) rfl rfl ?_
    refine AOps.cd hT hA {} (by (repeat (cbv; simp only [c6])); first | done | cbv) (lb rfl) ?_
    refine nT ?_
    rcases tf r8 with c9 | c9
    · replace h := cT c9 h
      refine AWp.cdF rfl (by first | rfl | simp only [c6, c9, Bool.not_true, Bool.not_false, cond_true, cond_false]) ?_
      refine AWp.skip ?_
      refine nB ?_
      refine nT ?_
      refine AWp.seq ?_
      refine AWp.region ?_
      obtain ⟨r11, e10, h⟩ := bindS h
      refine AOps.cc hT hA {} (by (repeat (cbv; simp only [c6, c9])); first | done | cbv) (lb rfl) (H101w hA e10) rfl (.inl rfl) rfl rfl rfl (lb rfl) rfl rfl ?_
      refine AOps.cd hT hA {} (by (repeat (cbv; simp only [c6, c9])); first | done | cbv) (lb rfl) ?_
      refine nT ?_
      refine AWp.ret ?_
      cases soI h
      exact ⟨rfl, rfl, rfl, lb rfl, _, rfl⟩
    · replace h := cF c9 h
      refine AWp.cdT rfl (by first | rfl | simp only [c6, c9, Bool.not_true, Bool.not_false, cond_true, cond_false]) ?_
      refine AWp.seq ?_
      refine AWp.rg hT hA {} (by (repeat (cbv; simp only [c6, c9])); first | done | cbv) (lb rfl) ?_
      refine nT ?_
      refine AWp.ret ?_
      refine rB ?_
      refine rT ?_
      cases soI h
      exact ⟨rfl, rfl, rfl, lb rfl, _, rfl⟩
  · replace h := cF c6 h
    refine AWp.cdT rfl (by first | rfl | simp only [c6, Bool.not_true, Bool.not_false, cond_true, cond_false]) ?_
    refine AWp.seq ?_
    refine AWp.rg hT hA {} (by (repeat (cbv; simp only [c6])); first | done | cbv) (lb rfl) ?_
    refine nT ?_
    refine AWp.ret ?_
    refine rB ?_
    refine rT ?_
    cases soI h
    exact ⟨rfl, rfl, rfl, lb rfl, _, rfl⟩

theorem H57w {A : Ar} (hA : A = Ar.std) {x1 : List D} {x2 : List D} {v32 : Bool} (h : H57 A x1 x2 = some v32) : ACall Try.prog 57 [(.d (.list 1 x1)), (.d (.list 1 x2))] [] (.d (.bool v32)) [] := by
  unfold H57 at h
  refine ACall.enter hT (fn := Try.f57) Try.func57 rfl (by decide) (by simp [Try.f57]) rfl rfl rfl rfl (lb rfl) ?_
  refine AWp.seq ?_
  refine AWp.rg hT hA {} (by cbv) (lb rfl) ?_
  refine nT ?_
  refine AWp.seq ?_
  refine AWp.seq ?_
  refine AWp.rg hT hA {} (by cbv) (lb rfl) ?_
  refine nT ?_
  refine AWp.block ?_
  obtain ⟨xK31, hxK31, K31, hK31, hkK31⟩ := bindK h
  refine AWp.cutX 0 [0, 1] [] 0 (lb rfl) (fun τ => K31 (.inl ()) = some v32 ∧ τ = { env := [(0, (.d (.list 1 x1))), (1, (.d (.list 1 x2)))], heap := [], n := 41 }) ?_ ?_
  · skip
    refine AWp.iter hxK31 [0, 1, 5] [] 0 (lb rfl) (fun v16 => { env := [(0, (.d (.list 1 x1))), (1, (.d (.list 1 x2))), (5, (.d (.int .i64 v16)))], heap := [], n := 41 }) ⟨rfl, (by cbv)⟩ ?_
    rintro v16 eK31 hsK31
    dsimp only [H57L0] at hsK31
    refine AWp.seq ?_
    refine AWp.seq ?_
    obtain ⟨v18, hvK19, hsK31⟩ := bindS hsK31
    refine AWp.cutN [0, 1, 5, 15] [] 0 (lb rfl) (fun τ => τ = { env := [(0, (.d (.list 1 x1))), (1, (.d (.list 1 x2))), (5, (.d (.int .i64 v16))), (15, (.d (.bool v18)))], heap := [], n := 41 }) ?_ ?_
    · skip
      rcases tf (A.zlt v16 (A.len x1)) with c17 | c17
      · replace hvK19 := cT c17 hvK19
        refine AWp.rg hT hA {} (by (repeat (cbv; simp only [c17])); first | done | cbv) (lb rfl) ?_
        cases soI hvK19
        exact oNi ⟨rfl, (by first | cbv | ((repeat (cbv; simp only [c17])); first | done | cbv))⟩
      · replace hvK19 := cF c17 hvK19
        refine AWp.rg hT hA {} (by (repeat (cbv; simp only [c17])); first | done | cbv) (lb rfl) ?_
        cases soI hvK19
        exact oNi ⟨rfl, (by first | cbv | ((repeat (cbv; simp only [c17])); first | done | cbv))⟩
    · rintro _ rfl
      refine nT ?_
      rcases tf v18 with c20 | c20
      · replace hsK31 := cT c20 hsK31
        refine AWp.cdT rfl (by first | rfl | simp only [c20, Bool.not_true, Bool.not_false, cond_true, cond_false]) ?_
        refine AWp.skip ?_
        refine nT ?_
        refine AWp.seq ?_
        refine AWp.block ?_
        refine AWp.seq ?_
        obtain ⟨a21, e22, hsK31⟩ := bindS hsK31
        obtain ⟨f23, f24⟩ := gtI e22
        obtain ⟨a25, e26, hsK31⟩ := bindS hsK31
        obtain ⟨f27, f28⟩ := gtI e26
        refine AWp.rd hT hA {} rfl (by (repeat (cbv; simp only [c20, f23, f24, f27, f28])); first | done | cbv) (by kernel_rfl) (lb rfl) ?_
        refine nT ?_
        rcases tf (A.zeq a21 a25) with c29 | c29
        · replace hsK31 := cT c29 hsK31
          refine AWp.cdF rfl (by first | rfl | simp only [c20, c29, Bool.not_true, Bool.not_false, cond_true, cond_false]) ?_
          refine AWp.skip ?_
          refine nB ?_
          refine nT ?_
          refine AWp.rg hT hA {} (by (repeat (cbv; simp only [c20, c29])); first | done | cbv) (lb rfl) ?_
          exact nT ⟨_, (soI hsK31).symm, rfl, (by first | cbv | ((repeat (cbv; simp only [c20, c29])); first | done | cbv))⟩
        · replace hsK31 := cF c29 hsK31
          refine AWp.cdT rfl (by first | rfl | simp only [c20, c29, Bool.not_true, Bool.not_false, cond_true, cond_false]) ?_
          refine AWp.seq ?_
          refine AWp.rd hT hA { tk := [35] } rfl (by (repeat (cbv; simp only [c20, c29, f23, f24, f27, f28])); first | done | cbv) (by kernel_rfl) (lb rfl) ?_
          refine nT ?_
          refine AWp.ret ?_
          refine rB ?_
          refine rT ?_
          refine rT ?_
          refine exL hsK31 fun hx => ?_
          subst hx
          refine oxR ?_
          replace hkK31 := (eR (hK31 _ hkK31))
          refine rB ?_
          refine rT ?_
          cases soI hkK31
          exact ⟨rfl, rfl, rfl, lb rfl, _, rfl⟩
      · replace hsK31 := cF c20 hsK31
        refine AWp.cdF rfl (by first | rfl | simp only [c20, Bool.not_true, Bool.not_false, cond_true, cond_false]) ?_
        refine AWp.exit ?_
        refine xT ?_
        refine xT ?_
        refine exL hsK31 fun hx => ?_
        subst hx
        exact oxI ⟨rfl, hkK31, (by first | cbv | ((repeat (cbv; simp only [c20])); first | done | cbv))⟩
  · rintro _ ⟨hkK31, rfl⟩
    have h := (eL (hK31 _ hkK31))
    refine xB ?_
    refine nT ?_
    refine AWp.seq ?_
    refine AWp.rg hT hA { tk := [40] } (by cbv) (lb rfl) ?_
    refine nT ?_
    refine AWp.ret ?_
    cases soI h
    exact ⟨rfl, rfl, rfl, lb rfl, _, rfl⟩

theorem H16w {A : Ar} (hA : A = Ar.std) {x1 : List D} {x2 : List D} {x3 : List D} {v128 : Bool} (h : H16 A x1 x2 x3 = some v128) : ACall Try.prog 16 [(.d (.list 4 x1)), (.d (.list 6 x2)), (.d (.list 1 x3))] [] (.d (.bool v128)) [] := by
  unfold H16 at h
  refine ACall.enter hT (fn := Try.f16) Try.func16 rfl (by decide) (by simp [Try.f16]) rfl rfl rfl rfl (lb rfl) ?_
  refine AWp.seq ?_
  refine AWp.rg hT hA {} (by cbv) (lb rfl) ?_
  refine nT ?_
  refine AWp.seq ?_
  refine AWp.seq ?_
  obtain ⟨v13, hvK14, h⟩ := bindS h
  refine AWp.cutN [0, 1, 2, 40] [] 0 (lb rfl) (fun τ => τ = { env := [(0, (.d (.list 4 x1))), (1, (.d (.list 6 x2))), (2, (.d (.list 1 x3))), (40, (.d (.bool v13)))], heap := [], n := 211 }) ?_ ?_
  · skip
    refine AWp.region ?_
    obtain ⟨r5, e4, hvK14⟩ := bindS hvK14
    refine AOps.cc hT hA {} (by cbv) (lb rfl) (H17w hA e4) rfl (.inl rfl) rfl rfl rfl (lb rfl) rfl rfl ?_
    rcases tf r5 with c6 | c6
    · replace hvK14 := cT c6 hvK14
      refine AOps.cd hT hA {} (by (repeat (cbv; simp only [c6])); first | done | cbv) (lb rfl) ?_
      cases soI hvK14
      exact oNi ⟨rfl, (by first | cbv | ((repeat (cbv; simp only [c6])); first | done | cbv))⟩
    · replace hvK14 := cF c6 hvK14
      obtain ⟨r8, e7, hvK14⟩ := bindS hvK14
      refine AOps.cc hT hA {} (by (repeat (cbv; simp only [c6])); first | done | cbv) (lb rfl) (H18w hA e7) rfl (.inl rfl) rfl rfl rfl (lb rfl) rfl rfl ?_
      rcases tf r8 with c9 | c9
      · replace hvK14 := cT c9 hvK14
        refine AOps.cd hT hA {} (by (repeat (cbv; simp only [c6, c9])); first | done | cbv) (lb rfl) ?_
        cases soI hvK14
        exact oNi ⟨rfl, (by first | cbv | ((repeat (cbv; simp only [c6, c9])); first | done | cbv))⟩
      · replace hvK14 := cF c9 hvK14
        rcases tf (A.zlt 60 (A.len x3)) with c10 | c10
        · replace hvK14 := cT c10 hvK14
          refine AOps.cd hT hA {} (by (repeat (cbv; simp only [c6, c9, c10])); first | done | cbv) (lb rfl) ?_
          cases soI hvK14
          exact oNi ⟨rfl, (by first | cbv | ((repeat (cbv; simp only [c6, c9, c10])); first | done | cbv))⟩
        · replace hvK14 := cF c10 hvK14
          obtain ⟨r12, e11, hvK14⟩ := bindS hvK14
          refine AOps.cc hT hA {} (by (repeat (cbv; simp only [c6, c9, c10])); first | done | cbv) (lb rfl) (H39w hA e11) rfl (.inl rfl) rfl rfl rfl (lb rfl) rfl rfl ?_
          refine AOps.cd hT hA {} (by (repeat (cbv; simp only [c6, c9, c10])); first | done | cbv) (lb rfl) ?_
          cases soI hvK14
          exact oNi ⟨rfl, (by first | cbv | ((repeat (cbv; simp only [c6, c9, c10])); first | done | cbv))⟩
  · rintro _ rfl
    refine nT ?_
    rcases tf v13 with c15 | c15
    · replace h := cT c15 h
      refine AWp.cdT rfl (by first | rfl | simp only [c15, Bool.not_true, Bool.not_false, cond_true, cond_false]) ?_
      refine AWp.seq ?_
      refine AWp.region ?_
      obtain ⟨r17, e16, h⟩ := bindS h
      refine AOps.cc hT hA { tk := [41] } (by (repeat (cbv; simp only [c15])); first | done | cbv) (lb rfl) (H19w hA e16) rfl (.inl rfl) rfl rfl rfl (lb rfl) rfl rfl ?_
      refine AOps.cd hT hA { tk := [41] } (by (repeat (cbv; simp only [c15])); first | done | cbv) (lb rfl) ?_
      refine nT ?_
      refine AWp.ret ?_
      refine rT ?_
      cases soI h
      exact ⟨rfl, rfl, rfl, lb rfl, _, rfl⟩
    · replace h := cF c15 h
      refine AWp.cdF rfl (by first | rfl | simp only [c15, Bool.not_true, Bool.not_false, cond_true, cond_false]) ?_
      refine AWp.skip ?_
      refine nT ?_
      refine AWp.seq ?_
      refine AWp.region ?_
      obtain ⟨⟨r19, r20⟩, e18, h⟩ := bindS h
      refine AOps.cc hT hA {} (by (repeat (cbv; simp only [c15])); first | done | cbv) (lb rfl) (H26w hA e18) rfl (.inl rfl) rfl rfl rfl (lb rfl) rfl rfl ?_
      refine AOps.cd hT hA {} (by (repeat (cbv; simp only [c15])); first | done | cbv) (lb rfl) ?_
      refine nT ?_
      refine AWp.seq ?_
      refine AWp.region ?_
      obtain ⟨⟨r22, r23⟩, e21, h⟩ := bindS h
      refine AOps.cc hT hA {} (by (repeat (cbv; simp only [c15])); first | done | cbv) (lb rfl) (H28w hA e21) rfl (.inl rfl) rfl rfl rfl (lb rfl) rfl rfl ?_
      refine AOps.cd hT hA {} (by (repeat (cbv; simp only [c15])); first | done | cbv) (lb rfl) ?_
      refine nT ?_
      refine AWp.seq ?_
      refine AWp.region ?_
      obtain ⟨⟨r25, r26⟩, e24, h⟩ := bindS h
      refine AOps.cc hT hA {} (by (repeat (cbv; simp only [c15])); first | done | cbv) (lb rfl) (H30w hA e24) rfl (.inl rfl) rfl rfl rfl (lb rfl) rfl rfl ?_
      refine AOps.cd hT hA {} (by (repeat (cbv; simp only [c15])); first | done | cbv) (lb rfl) ?_
      refine nT ?_
      refine AWp.seq ?_
      refine AWp.region ?_
      obtain ⟨⟨r28, r29⟩, e27, h⟩ := bindS h
      refine AOps.cc hT hA {} (by (repeat (cbv; simp only [c15])); first | done | cbv) (lb rfl) (H43w hA e27) rfl (.inl rfl) rfl rfl rfl (lb rfl) rfl rfl ?_
      refine AOps.cd hT hA {} (by (repeat (cbv; simp only [c15])); first | done | cbv) (lb rfl) ?_
      refine nT ?_
      refine AWp.seq ?_
      refine AWp.region ?_
      obtain ⟨⟨r31, r32⟩, e30, h⟩ := bindS h
      refine AOps.cc hT hA {} (by (repeat (cbv; simp only [c15])); first | done | cbv) (lb rfl) (H37w hA e30) rfl (.inl rfl) rfl rfl rfl (lb rfl) rfl rfl ?_
      refine AOps.cd hT hA {} (by (repeat (cbv; simp only [c15])); first | done | cbv) (lb rfl) ?_
      refine nT ?_
      refine AWp.seq ?_
      refine AWp.seq ?_
      obtain ⟨⟨v53, v54⟩, hvK55, h⟩ := bindS h
      refine AWp.cutN [0, 1, 2, 7, 11, 13, 15, 111] [] 0 (lb rfl) (fun τ => τ = { env := [(0, (.d (.list 4 x1))), (1, (.d (.list 6 x2))), (2, (.d (.list 1 x3))), (7, (.d (.bool v53))), (11, (.d (.int .i64 r25))), (13, (.d (.list 1 r28))), (15, (.d (.bool r31))), (111, (.d (.bool v54)))], heap := [], n := 211 }) ?_ ?_
      · skip
        rcases tf (A.zeq r20 0) with c33 | c33
        · replace hvK55 := cT c33 hvK55
          rcases tf (A.zeq r23 0) with c34 | c34
          · replace hvK55 := cT c34 hvK55
            rcases tf (A.zeq r26 0) with c35 | c35
            · replace hvK55 := cT c35 hvK55
              rcases tf (A.zeq r32 0) with c36 | c36
              · replace hvK55 := cT c36 hvK55
                rcases tf (A.zeq r29 0) with c37 | c37
                · replace hvK55 := cT c37 hvK55
                  rcases tf (A.beq r19 (A.zlt 0 r25)) with c38 | c38
                  · replace hvK55 := cT c38 hvK55
                    rcases tf (A.beq r19 (A.zeq r29 0)) with c39 | c39
                    · replace hvK55 := cT c39 hvK55
                      have c40 := c39
                      rw [c37] at c40
                      rcases tf r19 with c41 | c41
                      · replace hvK55 := cT c41 hvK55
                        have c42 := c38
                        rw [c41] at c42
                        have c43 := c39
                        rw [c41] at c43
                        have c44 := c40
                        rw [c41] at c44
                        refine AWp.rg hT hA {} (by (repeat (cbv; simp only [c15, c33, c34, c35, c36, c37, c38, c39, c40, c41, c42, c43, c44])); first | done | cbv) (lb rfl) ?_
                        cases soI hvK55
                        exact oNi ⟨rfl, (by first | cbv | ((repeat (cbv; simp only [c15, c33, c34, c35, c36, c37, c38, c39, c40, c41, c42, c43, c44])); first | done | cbv))⟩
                      · replace hvK55 := cF c41 hvK55
                        have c42 := c38
                        rw [c41] at c42
                        have c43 := c39
                        rw [c41] at c43
                        have c44 := c40
                        rw [c41] at c44
                        refine AWp.rg hT hA {} (by (repeat (cbv; simp only [c15, c33, c34, c35, c36, c37, c38, c39, c40, c41, c42, c43, c44])); first | done | cbv) (lb rfl) ?_
                        cases soI hvK55
                        exact oNi ⟨rfl, (by first | cbv | ((repeat (cbv; simp only [c15, c33, c34, c35, c36, c37, c38, c39, c40, c41, c42, c43, c44])); first | done | cbv))⟩
                    · replace hvK55 := cF c39 hvK55
                      have c40 := c39
                      rw [c37] at c40
                      refine AWp.rg hT hA {} (by (repeat (cbv; simp only [c15, c33, c34, c35, c36, c37, c38, c39, c40])); first | done | cbv) (lb rfl) ?_
                      cases soI hvK55
                      exact oNi ⟨rfl, (by first | cbv | ((repeat (cbv; simp only [c15, c33, c34, c35, c36, c37, c38, c39, c40])); first | done | cbv))⟩
                  · replace hvK55 := cF c38 hvK55
                    refine AWp.rg hT hA {} (by (repeat (cbv; simp only [c15, c33, c34, c35, c36, c37, c38])); first | done | cbv) (lb rfl) ?_
                    cases soI hvK55
                    exact oNi ⟨rfl, (by first | cbv | ((repeat (cbv; simp only [c15, c33, c34, c35, c36, c37, c38])); first | done | cbv))⟩
                · replace hvK55 := cF c37 hvK55
                  rcases tf (A.zeq r29 5) with c45 | c45
                  · replace hvK55 := cT c45 hvK55
                    rcases tf (A.beq r19 (A.zlt 0 r25)) with c46 | c46
                    · replace hvK55 := cT c46 hvK55
                      rcases tf (A.beq r19 (A.zeq r29 0)) with c47 | c47
                      · replace hvK55 := cT c47 hvK55
                        have c48 := c47
                        rw [c37] at c48
                        rcases tf r19 with c49 | c49
                        · replace hvK55 := cT c49 hvK55
                          have c50 := c46
                          rw [c49] at c50
                          have c51 := c47
                          rw [c49] at c51
                          have c52 := c48
                          rw [c49] at c52
                          refine AWp.rg hT hA {} (by (repeat (cbv; simp only [c15, c33, c34, c35, c36, c37, c45, c46, c47, c48, c49, c50, c51, c52])); first | done | cbv) (lb rfl) ?_
                          cases soI hvK55
                          exact oNi ⟨rfl, (by first | cbv | ((repeat (cbv; simp only [c15, c33, c34, c35, c36, c37, c45, c46, c47, c48, c49, c50, c51, c52])); first | done | cbv))⟩
                        · replace hvK55 := cF c49 hvK55
                          have c50 := c46
                          rw [c49] at c50
                          have c51 := c47
                          rw [c49] at c51
                          have c52 := c48
                          rw [c49] at c52
                          refine AWp.rg hT hA {} (by (repeat (cbv; simp only [c15, c33, c34, c35, c36, c37, c45, c46, c47, c48, c49, c50, c51, c52])); first | done | cbv) (lb rfl) ?_
                          cases soI hvK55
                          exact oNi ⟨rfl, (by first | cbv | ((repeat (cbv; simp only [c15, c33, c34, c35, c36, c37, c45, c46, c47, c48, c49, c50, c51, c52])); first | done | cbv))⟩
                      · replace hvK55 := cF c47 hvK55
                        have c48 := c47
                        rw [c37] at c48
                        refine AWp.rg hT hA {} (by (repeat (cbv; simp only [c15, c33, c34, c35, c36, c37, c45, c46, c47, c48])); first | done | cbv) (lb rfl) ?_
                        cases soI hvK55
                        exact oNi ⟨rfl, (by first | cbv | ((repeat (cbv; simp only [c15, c33, c34, c35, c36, c37, c45, c46, c47, c48])); first | done | cbv))⟩
                    · replace hvK55 := cF c46 hvK55
                      refine AWp.rg hT hA {} (by (repeat (cbv; simp only [c15, c33, c34, c35, c36, c37, c45, c46])); first | done | cbv) (lb rfl) ?_
                      cases soI hvK55
                      exact oNi ⟨rfl, (by first | cbv | ((repeat (cbv; simp only [c15, c33, c34, c35, c36, c37, c45, c46])); first | done | cbv))⟩
                  · replace hvK55 := cF c45 hvK55
                    refine AWp.rg hT hA {} (by (repeat (cbv; simp only [c15, c33, c34, c35, c36, c37, c45])); first | done | cbv) (lb rfl) ?_
                    cases soI hvK55
                    exact oNi ⟨rfl, (by first | cbv | ((repeat (cbv; simp only [c15, c33, c34, c35, c36, c37, c45])); first | done | cbv))⟩
              · replace hvK55 := cF c36 hvK55
                refine AWp.rg hT hA {} (by (repeat (cbv; simp only [c15, c33, c34, c35, c36])); first | done | cbv) (lb rfl) ?_
                cases soI hvK55
                exact oNi ⟨rfl, (by first | cbv | ((repeat (cbv; simp only [c15, c33, c34, c35, c36])); first | done | cbv))⟩
            · replace hvK55 := cF c35 hvK55
              refine AWp.rg hT hA {} (by (repeat (cbv; simp only [c15, c33, c34, c35])); first | done | cbv) (lb rfl) ?_
              cases soI hvK55
              exact oNi ⟨rfl, (by first | cbv | ((repeat (cbv; simp only [c15, c33, c34, c35])); first | done | cbv))⟩
          · replace hvK55 := cF c34 hvK55
            refine AWp.rg hT hA {} (by (repeat (cbv; simp only [c15, c33, c34])); first | done | cbv) (lb rfl) ?_
            cases soI hvK55
            exact oNi ⟨rfl, (by first | cbv | ((repeat (cbv; simp only [c15, c33, c34])); first | done | cbv))⟩
        · replace hvK55 := cF c33 hvK55
          refine AWp.rg hT hA {} (by (repeat (cbv; simp only [c15, c33])); first | done | cbv) (lb rfl) ?_
          cases soI hvK55
          exact oNi ⟨rfl, (by first | cbv | ((repeat (cbv; simp only [c15, c33])); first | done | cbv))⟩
      · rintro _ rfl
        refine nT ?_
        rcases tf v54 with c56 | c56
        · replace h := cT c56 h
          refine AWp.cdT rfl (by first | rfl | simp only [c56, Bool.not_true, Bool.not_false, cond_true, cond_false]) ?_
          refine AWp.seq ?_
          refine AWp.rg hT hA {} (by (repeat (cbv; simp only [c56])); first | done | cbv) (lb rfl) ?_
          refine nT ?_
          refine AWp.ret ?_
          refine rT ?_
          cases soI h
          exact ⟨rfl, rfl, rfl, lb rfl, _, rfl⟩
        · replace h := cF c56 h
          refine AWp.cdF rfl (by first | rfl | simp only [c56, Bool.not_true, Bool.not_false, cond_true, cond_false]) ?_
          refine AWp.skip ?_
          refine nT ?_
          refine AWp.seq ?_
          refine AWp.rg hT hA {} (by (repeat (cbv; simp only [c56])); first | done | cbv) (lb rfl) ?_
          refine nT ?_
          refine AWp.seq ?_
          refine AWp.seq ?_
          refine AWp.rg hT hA {} (by (repeat (cbv; simp only [c56])); first | done | cbv) (lb rfl) ?_
          refine nT ?_
          refine AWp.block ?_
          obtain ⟨xK83, hxK83, K83, hK83, hkK83⟩ := bindK h
          refine AWp.cutX 0 [0, 1, 2, 7, 11, 13, 15, 17] [] 0 (lb rfl) (fun τ => ∃ v82, K83 v82 = some v128 ∧ τ = { env := [(0, (.d (.list 4 x1))), (1, (.d (.list 6 x2))), (2, (.d (.list 1 x3))), (7, (.d (.bool v53))), (11, (.d (.int .i64 r25))), (13, (.d (.list 1 r28))), (15, (.d (.bool r31))), (17, (.d (.bool v82)))], heap := [], n := 211 }) ?_ ?_
          · skip
            refine AWp.iter hxK83 [0, 1, 2, 7, 11, 13, 15, 17, 18] [] 0 (lb rfl) (fun (v67, v68) => { env := [(0, (.d (.list 4 x1))), (1, (.d (.list 6 x2))), (2, (.d (.list 1 x3))), (7, (.d (.bool v53))), (11, (.d (.int .i64 r25))), (13, (.d (.list 1 r28))), (15, (.d (.bool r31))), (17, (.d (.bool v67))), (18, (.d (.int .i64 v68)))], heap := [], n := 211 }) ⟨rfl, (by first | cbv | ((repeat (cbv; simp only [c56])); first | done | cbv))⟩ ?_
            rintro ⟨v67, v68⟩ eK83 hsK83
            dsimp only [H16L0] at hsK83
            refine AWp.seq ?_
            refine AWp.seq ?_
            refine AWp.rg hT hA {} (by cbv) (lb rfl) ?_
            refine nT ?_
            rcases tf (A.zlt v68 (A.len x2)) with c69 | c69
            · replace hsK83 := cT c69 hsK83
              refine AWp.cdT rfl (by first | rfl | simp only [c69, Bool.not_true, Bool.not_false, cond_true, cond_false]) ?_
              refine AWp.skip ?_
              refine nT ?_
              refine AWp.seq ?_
              refine AWp.block ?_
              obtain ⟨v80, hvK81, hsK83⟩ := bindS hsK83
              refine AWp.cutN [0, 1, 2, 7, 11, 13, 15, 17, 18] [] 0 (lb rfl) (fun τ => τ = { env := [(0, (.d (.list 4 x1))), (1, (.d (.list 6 x2))), (2, (.d (.list 1 x3))), (7, (.d (.bool v53))), (11, (.d (.int .i64 r25))), (13, (.d (.list 1 r28))), (15, (.d (.bool r31))), (17, (.d (.bool v80))), (18, (.d (.int .i64 v68)))], heap := [], n := 211 }) ?_ ?_
              · skip
                rcases tf v67 with c70 | c70
                · replace hvK81 := cT c70 hvK81
                  refine AWp.rg hT hA {} (by (repeat (cbv; simp only [c69, c70])); first | done | cbv) (lb rfl) ?_
                  cases soI hvK81
                  exact oNi ⟨rfl, (by first | cbv | ((repeat (cbv; simp only [c69, c70])); first | done | cbv))⟩
                · replace hvK81 := cF c70 hvK81
                  obtain ⟨⟨a71, a72, a73, a74, a75, a76⟩, e77, hvK81⟩ := bindS hvK81
                  obtain ⟨f78, f79⟩ := gtI e77
                  refine AWp.rg hT hA {} (by (repeat (cbv; simp only [c69, c70, f78, f79])); first | done | cbv) (lb rfl) ?_
                  cases soI hvK81
                  exact oNi ⟨rfl, (by first | cbv | ((repeat (cbv; simp only [c69, c70])); first | done | cbv))⟩
              · rintro _ rfl
                refine nB ?_
                refine nT ?_
                refine AWp.rg hT hA {} (by cbv) (lb rfl) ?_
                exact nT ⟨_, (soI hsK83).symm, rfl, (by cbv)⟩
            · replace hsK83 := cF c69 hsK83
              refine AWp.cdF rfl (by first | rfl | simp only [c69, Bool.not_true, Bool.not_false, cond_true, cond_false]) ?_
              refine AWp.exit ?_
              refine xT ?_
              refine xT ?_
              refine exL hsK83 fun hx => ?_
              subst hx
              exact oxI ⟨rfl, _, hkK83, (by first | cbv | ((repeat (cbv; simp only [c69])); first | done | cbv))⟩
          · rintro _ ⟨v82, hkK83, rfl⟩
            have h := (hK83 _ hkK83)
            refine xB ?_
            refine nT ?_
            refine AWp.seq ?_
            refine AWp.seq ?_
            obtain ⟨v86, hvK87, h⟩ := bindS h
            refine AWp.cutN [0, 1, 2, 7, 13, 135] [] 0 (lb rfl) (fun τ => τ = { env := [(0, (.d (.list 4 x1))), (1, (.d (.list 6 x2))), (2, (.d (.list 1 x3))), (7, (.d (.bool v53))), (13, (.d (.list 1 r28))), (135, (.d (.bool v86)))], heap := [], n := 211 }) ?_ ?_
            · skip
              rcases tf r31 with c84 | c84
              · replace hvK87 := cT c84 hvK87
                rcases tf v82 with c85 | c85
                · replace hvK87 := cT c85 hvK87
                  refine AWp.rg hT hA {} (by (repeat (cbv; simp only [c84, c85])); first | done | cbv) (lb rfl) ?_
                  cases soI hvK87
                  exact oNi ⟨rfl, (by first | cbv | ((repeat (cbv; simp only [c84, c85])); first | done | cbv))⟩
                · replace hvK87 := cF c85 hvK87
                  refine AWp.rg hT hA {} (by (repeat (cbv; simp only [c84, c85])); first | done | cbv) (lb rfl) ?_
                  cases soI hvK87
                  exact oNi ⟨rfl, (by first | cbv | ((repeat (cbv; simp only [c84, c85])); first | done | cbv))⟩
              · replace hvK87 := cF c84 hvK87
                refine AWp.rg hT hA {} (by (repeat (cbv; simp only [c84])); first | done | cbv) (lb rfl) ?_
                cases soI hvK87
                exact oNi ⟨rfl, (by first | cbv | ((repeat (cbv; simp only [c84])); first | done | cbv))⟩
            · rintro _ rfl
              refine nT ?_
              rcases tf v86 with c88 | c88
              · replace h := cT c88 h
                refine AWp.cdT rfl (by first | rfl | simp only [c88, Bool.not_true, Bool.not_false, cond_true, cond_false]) ?_
                refine AWp.seq ?_
                refine AWp.rg hT hA {} (by (repeat (cbv; simp only [c88])); first | done | cbv) (lb rfl) ?_
                refine nT ?_
                refine AWp.ret ?_
                refine rT ?_
                cases soI h
                exact ⟨rfl, rfl, rfl, lb rfl, _, rfl⟩
              · replace h := cF c88 h
                refine AWp.cdF rfl (by first | rfl | simp only [c88, Bool.not_true, Bool.not_false, cond_true, cond_false]) ?_
                refine AWp.skip ?_
                refine nT ?_
                refine AWp.seq ?_
                refine AWp.region ?_
                obtain ⟨⟨r90, r91⟩, e89, h⟩ := bindS h
                refine AOps.cc hT hA {} (by (repeat (cbv; simp only [c88])); first | done | cbv) (lb rfl) (H46w hA e89) rfl (.inl rfl) rfl rfl rfl (lb rfl) rfl rfl ?_
                refine AOps.cd hT hA {} (by (repeat (cbv; simp only [c88])); first | done | cbv) (lb rfl) ?_
                refine nT ?_
                refine AWp.seq ?_
                refine AWp.seq ?_
                obtain ⟨⟨v94, v95⟩, hvK96, h⟩ := bindS h
                refine AWp.cutN [0, 1, 2, 7, 13, 19, 151] [] 0 (lb rfl) (fun τ => τ = { env := [(0, (.d (.list 4 x1))), (1, (.d (.list 6 x2))), (2, (.d (.list 1 x3))), (7, (.d (.bool v53))), (13, (.d (.list 1 r28))), (19, (.d (.bool v94))), (151, (.d (.bool v95)))], heap := [], n := 211 }) ?_ ?_
                · skip
                  rcases tf (A.zeq r91 0) with c92 | c92
                  · replace hvK96 := cT c92 hvK96
                    rcases tf r90 with c93 | c93
                    · replace hvK96 := cT c93 hvK96
                      refine AWp.rg hT hA {} (by (repeat (cbv; simp only [c88, c92, c93])); first | done | cbv) (lb rfl) ?_
                      cases soI hvK96
                      exact oNi ⟨rfl, (by first | cbv | ((repeat (cbv; simp only [c88, c92, c93])); first | done | cbv))⟩
                    · replace hvK96 := cF c93 hvK96
                      refine AWp.rg hT hA {} (by (repeat (cbv; simp only [c88, c92, c93])); first | done | cbv) (lb rfl) ?_
                      cases soI hvK96
                      exact oNi ⟨rfl, (by first | cbv | ((repeat (cbv; simp only [c88, c92, c93])); first | done | cbv))⟩
                  · replace hvK96 := cF c92 hvK96
                    refine AWp.rg hT hA {} (by (repeat (cbv; simp only [c88, c92])); first | done | cbv) (lb rfl) ?_
                    cases soI hvK96
                    exact oNi ⟨rfl, (by first | cbv | ((repeat (cbv; simp only [c88, c92])); first | done | cbv))⟩
                · rintro _ rfl
                  refine nT ?_
                  rcases tf v95 with c97 | c97
                  · replace h := cT c97 h
                    refine AWp.cdT rfl (by first | rfl | simp only [c97, Bool.not_true, Bool.not_false, cond_true, cond_false]) ?_
                    refine AWp.seq ?_
                    refine AWp.rg hT hA {} (by (repeat (cbv; simp only [c97])); first | done | cbv) (lb rfl) ?_
                    refine nT ?_
                    refine AWp.ret ?_
                    refine rT ?_
                    cases soI h
                    exact ⟨rfl, rfl, rfl, lb rfl, _, rfl⟩
                  · replace h := cF c97 h
                    refine AWp.cdF rfl (by first | rfl | simp only [c97, Bool.not_true, Bool.not_false, cond_true, cond_false]) ?_
                    refine AWp.skip ?_
                    refine nT ?_
                    refine AWp.seq ?_
                    refine AWp.seq ?_
                    refine AWp.rg hT hA {} (by (repeat (cbv; simp only [c97])); first | done | cbv) (lb rfl) ?_
                    refine nT ?_
                    rcases tf v53 with c98 | c98
                    · replace h := cT c98 h
                      refine AWp.cdF rfl (by first | rfl | simp only [c97, c98, Bool.not_true, Bool.not_false, cond_true, cond_false]) ?_
                      refine AWp.skip ?_
                      refine nT ?_
                      refine AWp.seq ?_
                      refine AWp.region ?_
                      obtain ⟨⟨r102, r103⟩, e101, h⟩ := bindS h
                      refine AOps.cc hT hA {} (by (repeat (cbv; simp only [c97, c98])); first | done | cbv) (lb rfl) (H46w hA e101) rfl (.inl rfl) rfl rfl rfl (lb rfl) rfl rfl ?_
                      refine AOps.cd hT hA {} (by (repeat (cbv; simp only [c97, c98])); first | done | cbv) (lb rfl) ?_
                      refine nT ?_
                      refine AWp.seq ?_
                      refine AWp.region ?_
                      obtain ⟨⟨r105, r106, r107⟩, e104, h⟩ := bindS h
                      refine AOps.cc hT hA {} (by (repeat (cbv; simp only [c97, c98])); first | done | cbv) (lb rfl) (H51w hA e104) rfl (.inl rfl) rfl rfl rfl (lb rfl) rfl rfl ?_
                      refine AOps.cd hT hA {} (by (repeat (cbv; simp only [c97, c98])); first | done | cbv) (lb rfl) ?_
                      refine nT ?_
                      refine AWp.seq ?_
                      refine AWp.region ?_
                      obtain ⟨⟨r109, r110⟩, e108, h⟩ := bindS h
                      refine AOps.cc hT hA {} (by (repeat (cbv; simp only [c97, c98])); first | done | cbv) (lb rfl) (H53w hA e108) rfl (.inl rfl) rfl rfl rfl (lb rfl) rfl rfl ?_
                      refine AOps.cd hT hA {} (by (repeat (cbv; simp only [c97, c98])); first | done | cbv) (lb rfl) ?_
                      refine nT ?_
                      refine AWp.seq ?_
                      obtain ⟨v126, hvK127, h⟩ := bindS h
                      refine AWp.cutN [6] [] 0 (lb rfl) (fun τ => τ = { env := [(6, (.d (.bool v126)))], heap := [], n := 211 }) ?_ ?_
                      · skip
                        refine AWp.region ?_
                        rcases tf (A.zeq r103 0) with c111 | c111
                        · replace hvK127 := cT c111 hvK127
                          rcases tf (A.zeq r107 0) with c112 | c112
                          · replace hvK127 := cT c112 hvK127
                            rcases tf (A.zeq r110 0) with c113 | c113
                            · replace hvK127 := cT c113 hvK127
                              rcases tf r102 with c114 | c114
                              · replace hvK127 := cT c114 hvK127
                                rcases tf r105 with c115 | c115
                                · replace hvK127 := cT c115 hvK127
                                  rcases tf r106 with c116 | c116
                                  · replace hvK127 := cT c116 hvK127
                                    rcases tf r109 with c117 | c117
                                    · replace hvK127 := cT c117 hvK127
                                      rcases tf v94 with c118 | c118
                                      · replace hvK127 := cT c118 hvK127
                                        obtain ⟨r120, e119, hvK127⟩ := bindS hvK127
                                        refine AOps.cc hT hA { tk := [210] } (by (repeat (cbv; simp only [c97, c98, c111, c112, c113, c114, c115, c116, c117, c118])); first | done | cbv) (lb rfl) (H57w hA e119) rfl (.inl rfl) rfl rfl rfl (lb rfl) rfl rfl ?_
                                        rcases tf r120 with c121 | c121
                                        · replace hvK127 := cT c121 hvK127
                                          refine AOps.cd hT hA { tk := [210] } (by (repeat (cbv; simp only [c97, c98, c111, c112, c113, c114, c115, c116, c117, c118, c121])); first | done | cbv) (lb rfl) ?_
                                          cases soI hvK127
                                          exact oNi ⟨rfl, (by first | cbv | ((repeat (cbv; simp only [c97, c98, c111, c112, c113, c114, c115, c116, c117, c118, c121])); first | done | cbv))⟩
                                        · replace hvK127 := cF c121 hvK127
                                          obtain ⟨r123, e122, hvK127⟩ := bindS hvK127
                                          refine AOps.cc hT hA { tk := [210] } (by (repeat (cbv; simp only [c97, c98, c111, c112, c113, c114, c115, c116, c117, c118, c121])); first | done | cbv) (lb rfl) (H19w hA e122) rfl (.inl rfl) rfl rfl rfl (lb rfl) rfl rfl ?_
                                          refine AOps.cd hT hA { tk := [210] } (by (repeat (cbv; simp only [c97, c98, c111, c112, c113, c114, c115, c116, c117, c118, c121])); first | done | cbv) (lb rfl) ?_
                                          cases soI hvK127
                                          exact oNi ⟨rfl, (by first | cbv | ((repeat (cbv; simp only [c97, c98, c111, c112, c113, c114, c115, c116, c117, c118, c121])); first | done | cbv))⟩
                                      · replace hvK127 := cF c118 hvK127
                                        obtain ⟨r125, e124, hvK127⟩ := bindS hvK127
                                        refine AOps.cc hT hA { tk := [210] } (by (repeat (cbv; simp only [c97, c98, c111, c112, c113, c114, c115, c116, c117, c118])); first | done | cbv) (lb rfl) (H19w hA e124) rfl (.inl rfl) rfl rfl rfl (lb rfl) rfl rfl ?_
                                        refine AOps.cd hT hA { tk := [210] } (by (repeat (cbv; simp only [c97, c98, c111, c112, c113, c114, c115, c116, c117, c118])); first | done | cbv) (lb rfl) ?_
                                        cases soI hvK127
                                        exact oNi ⟨rfl, (by first | cbv | ((repeat (cbv; simp only [c97, c98, c111, c112, c113, c114, c115, c116, c117, c118])); first | done | cbv))⟩
                                    · replace hvK127 := cF c117 hvK127
                                      refine AOps.cd hT hA { tk := [210] } (by (repeat (cbv; simp only [c97, c98, c111, c112, c113, c114, c115, c116, c117])); first | done | cbv) (lb rfl) ?_
                                      cases soI hvK127
                                      exact oNi ⟨rfl, (by first | cbv | ((repeat (cbv; simp only [c97, c98, c111, c112, c113, c114, c115, c116, c117])); first | done | cbv))⟩
                                  · replace hvK127 := cF c116 hvK127
                                    refine AOps.cd hT hA { tk := [210] } (by (repeat (cbv; simp only [c97, c98, c111, c112, c113, c114, c115, c116])); first | done | cbv) (lb rfl) ?_
                                    cases soI hvK127
                                    exact oNi ⟨rfl, (by first | cbv | ((repeat (cbv; simp only [c97, c98, c111, c112, c113, c114, c115, c116])); first | done | cbv))⟩
                                · replace hvK127 := cF c115 hvK127
                                  refine AOps.cd hT hA { tk := [210] } (by (repeat (cbv; simp only [c97, c98, c111, c112, c113, c114, c115])); first | done | cbv) (lb rfl) ?_
                                  cases soI hvK127
                                  exact oNi ⟨rfl, (by first | cbv | ((repeat (cbv; simp only [c97, c98, c111, c112, c113, c114, c115])); first | done | cbv))⟩
                              · replace hvK127 := cF c114 hvK127
                                refine AOps.cd hT hA { tk := [210] } (by (repeat (cbv; simp only [c97, c98, c111, c112, c113, c114])); first | done | cbv) (lb rfl) ?_
                                cases soI hvK127
                                exact oNi ⟨rfl, (by first | cbv | ((repeat (cbv; simp only [c97, c98, c111, c112, c113, c114])); first | done | cbv))⟩
                            · replace hvK127 := cF c113 hvK127
                              refine AOps.cd hT hA { tk := [210] } (by (repeat (cbv; simp only [c97, c98, c111, c112, c113])); first | done | cbv) (lb rfl) ?_
                              cases soI hvK127
                              exact oNi ⟨rfl, (by first | cbv | ((repeat (cbv; simp only [c97, c98, c111, c112, c113])); first | done | cbv))⟩
                          · replace hvK127 := cF c112 hvK127
                            refine AOps.cd hT hA { tk := [210] } (by (repeat (cbv; simp only [c97, c98, c111, c112])); first | done | cbv) (lb rfl) ?_
                            cases soI hvK127
                            exact oNi ⟨rfl, (by first | cbv | ((repeat (cbv; simp only [c97, c98, c111, c112])); first | done | cbv))⟩
                        · replace hvK127 := cF c111 hvK127
                          refine AOps.cd hT hA { tk := [210] } (by (repeat (cbv; simp only [c97, c98, c111])); first | done | cbv) (lb rfl) ?_
                          cases soI hvK127
                          exact oNi ⟨rfl, (by first | cbv | ((repeat (cbv; simp only [c97, c98, c111])); first | done | cbv))⟩
                      · rintro _ rfl
                        refine nT ?_
                        refine AWp.ret ?_
                        cases soI h
                        exact ⟨rfl, rfl, rfl, lb rfl, _, rfl⟩
                    · replace h := cF c98 h
                      refine AWp.cdT rfl (by first | rfl | simp only [c97, c98, Bool.not_true, Bool.not_false, cond_true, cond_false]) ?_
                      refine AWp.seq ?_
                      refine AWp.region ?_
                      obtain ⟨r100, e99, h⟩ := bindS h
                      refine AOps.cc hT hA { tk := [154] } (by (repeat (cbv; simp only [c97, c98])); first | done | cbv) (lb rfl) (H19w hA e99) rfl (.inl rfl) rfl rfl rfl (lb rfl) rfl rfl ?_
                      refine AOps.cd hT hA { tk := [154] } (by (repeat (cbv; simp only [c97, c98])); first | done | cbv) (lb rfl) ?_
                      refine nT ?_
                      refine AWp.ret ?_
                      refine rT ?_
                      cases soI h
                      exact ⟨rfl, rfl, rfl, lb rfl, _, rfl⟩
end Go.Am
