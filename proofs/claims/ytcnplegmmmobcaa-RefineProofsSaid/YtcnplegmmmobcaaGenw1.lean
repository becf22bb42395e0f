/- Own text: Genw1. -/
import Derived.Test.YtcnplegmmmobcaaGenw0
set_option maxRecDepth 100000
set_option maxHeartbeats 2000000
set_option linter.unusedVariables false
set_option linter.unusedSimpArgs false
namespace Go.Am
open Go Go.Proofs
theorem R98w {A : Ar} (hA : A = Ar.std) {x1 : Int} {x2 : Int} {x3 : List D} {x4 : List D} {x5 : List D} {v13 : Bool} (h : R98 A x1 x2 x3 x4 x5 = some v13) : ACall Try.prog 98 [(.d (.agg [(.int .i64 x1), (.int .i64 x2)])), (.ptr 4 0), (.ptr 2 0), (.ptr 3 0)] [(.arr 1 x3), (.arr 1 x4), (.cells [(.ptr 0 0)]), (.cells [(.ptr 1 0)]), (.arr 1 x5)] (.d (.bool v13)) [(.arr 1 x3), (.arr 1 x4), (.cells [(.ptr 0 0)]), (.cells [(.ptr 1 0)]), (.arr 1 x5)] := by
  unfold R98 at h
  refine ACall.enter hT (fn := Try.f98) Try.func98 rfl (by decide) (by simp [Try.f98]) rfl rfl rfl rfl (lb rfl) ?_
  refine AWp.seq ?_
  refine AWp.rg hT hA {} (by cbv) (lb rfl) ?_
  refine nT ?_
  refine AWp.seq ?_
  refine AWp.region ?_
  obtain ⟨l10, e6, h⟩ := bindS h
  obtain ⟨f7, f8, f9⟩ := gaI e6
  obtain ⟨r12, e11, h⟩ := bindS h
  refine AOps.cc hT hA { tk := [14] } (by (repeat (cbv; simp only [f7, f8, f9, f7, f8, f9])); first | done | cbv) (lb rfl) (R99w hA e11) rfl (.inr rfl) rfl rfl rfl (lb rfl) rfl rfl ?_
  refine AOps.cd hT hA { tk := [14] } (by (repeat (cbv; simp only [f7, f8, f9, f7, f8, f9])); first | done | cbv) (lb rfl) ?_
  refine nT ?_
  refine AWp.ret ?_
  cases soI h
  exact ⟨rfl, rfl, rfl, lb rfl, _, rfl⟩

theorem R110w {A : Ar} (hA : A = Ar.std) {x1 : List D} {x2 : List D} {x3 : List D} {x4 : List D} {v26 : Int} (h : R110 A x1 x2 x3 x4 = some v26) : ACall Try.prog 110 [(.d (.list 2 x1)), (.func 98 [] [(.ptr 4 0), (.ptr 2 0), (.ptr 3 0)])] [(.arr 1 x2), (.arr 1 x3), (.cells [(.ptr 0 0)]), (.cells [(.ptr 1 0)]), (.arr 1 x4)] (.d (.int .i64 v26)) [(.arr 1 x2), (.arr 1 x3), (.cells [(.ptr 0 0)]), (.cells [(.ptr 1 0)]), (.arr 1 x4)] := by
  unfold R110 at h
  refine ACall.enter hT (fn := Try.f110) Try.func110 rfl (by decide) (by simp [Try.f110]) rfl rfl rfl rfl (lb rfl) ?_
  refine AWp.seq ?_
  refine AWp.rg hT hA {} (by cbv) (lb rfl) ?_
  refine nT ?_
  refine AWp.seq ?_
  refine AWp.seq ?_
  refine AWp.rg hT hA {} (by cbv) (lb rfl) ?_
  refine nT ?_
  refine AWp.block ?_
  obtain ⟨xK25, hxK25, K25, hK25, hkK25⟩ := bindK h
  refine AWp.cutX 0 [] [] 5 (lb rfl) (fun τ => K25 (.inl ()) = some v26 ∧ τ = { env := [], heap := [(.arr 1 x2), (.arr 1 x3), (.cells [(.ptr 0 0)]), (.cells [(.ptr 1 0)]), (.arr 1 x4)], n := 19 }) ?_ ?_
  · skip
    refine AWp.iter hxK25 [0, 1, 7, 8] [] 5 (lb rfl) (fun v14 => { env := [(0, (.d (.list 2 x1))), (1, (.func 98 [] [(.ptr 4 0), (.ptr 2 0), (.ptr 3 0)])), (7, (.d (.int .i64 (A.len x1)))), (8, (.d (.int .i64 v14)))], heap := [(.arr 1 x2), (.arr 1 x3), (.cells [(.ptr 0 0)]), (.cells [(.ptr 1 0)]), (.arr 1 x4)], n := 19 }) ⟨rfl, (by cbv)⟩ ?_
    rintro v14 eK25 hsK25
    dsimp only [R110L0] at hsK25
    refine AWp.seq ?_
    refine AWp.rg hT hA {} (by cbv) (lb rfl) ?_
    refine nT ?_
    refine AWp.seq ?_
    rcases tf (A.zlt v14 (A.len x1)) with c15 | c15
    · replace hsK25 := cT c15 hsK25
      refine AWp.cdT rfl (by first | rfl | simp only [c15, Bool.not_true, Bool.not_false, cond_true, cond_false]) ?_
      refine AWp.skip ?_
      refine nT ?_
      refine AWp.seq ?_
      refine AWp.block ?_
      refine AWp.seq ?_
      refine AWp.rg hT hA { tk := [8, 10] } (by (repeat (cbv; simp only [c15])); first | done | cbv) (lb rfl) ?_
      refine nT ?_
      refine AWp.seq ?_
      refine AWp.region ?_
      obtain ⟨⟨a16, a17⟩, e18, hsK25⟩ := bindS hsK25
      obtain ⟨f19, f20⟩ := gtI e18
      obtain ⟨r22, e21, hsK25⟩ := bindS hsK25
      refine AOps.cc hT hA {} (by (repeat (cbv; simp only [c15, f19, f20])); first | done | cbv) (lb rfl) (R98w hA e21) rfl (.inl rfl) rfl rfl rfl (lb rfl) rfl rfl ?_
      refine AOps.cd hT hA {} (by (repeat (cbv; simp only [c15, f19, f20])); first | done | cbv) (lb rfl) ?_
      refine nT ?_
      rcases tf r22 with c23 | c23
      · replace hsK25 := cT c23 hsK25
        refine AWp.cdT rfl (by first | rfl | simp only [c15, c23, Bool.not_true, Bool.not_false, cond_true, cond_false]) ?_
        refine AWp.seq ?_
        refine AWp.rg hT hA { tk := [5, 17] } (by (repeat (cbv; simp only [c15, c23])); first | done | cbv) (lb rfl) ?_
        refine nT ?_
        refine AWp.ret ?_
        refine rB ?_
        refine rT ?_
        refine rT ?_
        refine exL hsK25 fun hx => ?_
        subst hx
        refine oxR ?_
        replace hkK25 := (eR (hK25 _ hkK25))
        refine rB ?_
        refine rT ?_
        cases soI hkK25
        exact ⟨rfl, rfl, rfl, lb rfl, _, rfl⟩
      · replace hsK25 := cF c23 hsK25
        refine AWp.cdF rfl (by first | rfl | simp only [c15, c23, Bool.not_true, Bool.not_false, cond_true, cond_false]) ?_
        refine AWp.skip ?_
        refine nB ?_
        refine nT ?_
        refine AWp.rg hT hA { tk := [18] } (by (repeat (cbv; simp only [c15, c23])); first | done | cbv) (lb rfl) ?_
        exact nT ⟨_, (soI hsK25).symm, rfl, (by first | (cbv; done) | ((repeat (cbv; simp only [c15, c23])); first | done | cbv))⟩
    · replace hsK25 := cF c15 hsK25
      refine AWp.cdF rfl (by first | rfl | simp only [c15, Bool.not_true, Bool.not_false, cond_true, cond_false]) ?_
      refine AWp.exit ?_
      refine xT ?_
      refine xT ?_
      refine exL hsK25 fun hx => ?_
      subst hx
      exact oxI ⟨rfl, hkK25, (by first | (cbv; done) | ((repeat (cbv; simp only [c15])); first | done | cbv))⟩
  · rintro _ ⟨hkK25, rfl⟩
    have h := (eL (hK25 _ hkK25))
    refine xB ?_
    refine nT ?_
    refine AWp.seq ?_
    refine AWp.rg hT hA {} (by cbv) (lb rfl) ?_
    refine nT ?_
    refine AWp.ret ?_
    cases soI h
    exact ⟨rfl, rfl, rfl, lb rfl, _, rfl⟩

theorem R97w {A : Ar} (hA : A = Ar.std) {x1 : List D} {x2 : List D} {x3 : List D} {x4 : List D} {v7 : Bool} (h : R97 A x1 x2 x3 x4 = some v7) : ACall Try.prog 97 [(.d (.list 2 x1)), (.func 98 [] [(.ptr 4 0), (.ptr 2 0), (.ptr 3 0)])] [(.arr 1 x2), (.arr 1 x3), (.cells [(.ptr 0 0)]), (.cells [(.ptr 1 0)]), (.arr 1 x4)] (.d (.bool v7)) [(.arr 1 x2), (.arr 1 x3), (.cells [(.ptr 0 0)]), (.cells [(.ptr 1 0)]), (.arr 1 x4)] := by
  unfold R97 at h
  refine ACall.enter hT (fn := Try.f97) Try.func97 rfl (by decide) (by simp [Try.f97]) rfl rfl rfl rfl (lb rfl) ?_
  refine AWp.seq ?_
  refine AWp.rg hT hA {} (by cbv) (lb rfl) ?_
  refine nT ?_
  refine AWp.seq ?_
  refine AWp.region ?_
  obtain ⟨r6, e5, h⟩ := bindS h
  refine AOps.cc hT hA { tk := [8] } (by cbv) (lb rfl) (R110w hA e5) rfl (.inl rfl) rfl rfl rfl (lb rfl) rfl rfl ?_
  refine AOps.cd hT hA { tk := [8] } (by cbv) (lb rfl) ?_
  refine nT ?_
  refine AWp.ret ?_
  cases soI h
  exact ⟨rfl, rfl, rfl, lb rfl, _, rfl⟩

theorem R49w {A : Ar} (hA : A = Ar.std) {x1 : Int} {x2 : List D} {x3 : Int} {x4 : List D} {x5 : List D} {v24 : Bool} {v25 : Int} (h : R49 A x1 x2 x3 x4 x5 = some (v24, v25)) : ACall Try.prog 49 [(.d (.agg [(.int .i64 x1), (.list 3 x2)])), (.d (.agg [(.int .i64 x3), (.list 3 x4)])), (.d (.list 2 x5))] [] (.tuple [(.d (.bool v24)), (.d (.int .i64 v25))]) [] := by
  unfold R49 at h
  refine ACall.enter hT (fn := Try.f49) Try.func49 rfl (by decide) (by simp [Try.f49]) rfl rfl rfl rfl (lb rfl) ?_
  refine AWp.seq ?_
  refine AWp.rg hT hA {} (by cbv) (lb rfl) ?_
  refine nT ?_
  refine AWp.seq ?_
  refine AWp.region ?_
  obtain ⟨q10, e6, h⟩ := bindS h
  rcases q10 with ⟨r7, r8⟩ | r9 | _
  · replace h := (eL h)
    refine AOps.cc hT hA { tk := [17, 18], esc := [8, 9] } (by cbv) (lb rfl) (R70wa hA e6) rfl (.inl rfl) rfl rfl rfl (lb rfl) rfl rfl ?_
    refine AOps.cd hT hA { tk := [17, 18], esc := [8, 9] } (by cbv) (lb rfl) ?_
    refine nT ?_
    refine AWp.seq ?_
    refine AWp.seq ?_
    have f11 := zeqF hA (a := 0) (b := 0) (c := true) rfl
    refine AWp.rg hT hA {} (by (repeat (cbv; simp only [f11])); first | done | cbv) (lb rfl) ?_
    refine nT ?_
    refine AWp.cdF rfl (by first | rfl | simp only [f11, Bool.not_true, Bool.not_false, cond_true, cond_false]) ?_
    refine AWp.skip ?_
    refine nT ?_
    refine AWp.seq ?_
    refine AWp.region ?_
    obtain ⟨⟨r13, r14⟩, e12, h⟩ := bindS h
    refine AOps.cc hT hA { tk := [30], arr := [11] } (by (repeat (cbv; simp only [f11])); first | done | cbv) (lb rfl) (R85w hA e12) rfl (.inr rfl) rfl rfl rfl (lb rfl) rfl rfl ?_
    obtain ⟨_, e18, h⟩ := bindS h
    have f17 := ckI e18
    obtain ⟨_, e15, h⟩ := bindS h
    have f16 := ckI e15
    refine AOps.cd hT hA { tk := [30], arr := [11] } (by (repeat (cbv; simp only [f11, f16, f17])); first | done | cbv) (lb rfl) ?_
    refine nT ?_
    refine AWp.seq ?_
    refine AWp.seq ?_
    refine AWp.rg hT hA {} (by (repeat (cbv; simp only [f11])); first | done | cbv) (lb rfl) ?_
    refine nT ?_
    rcases tf r14 with c19 | c19
    · replace h := cT c19 h
      refine AWp.cdF rfl (by first | rfl | simp only [f11, c19, Bool.not_true, Bool.not_false, cond_true, cond_false]) ?_
      refine AWp.skip ?_
      refine nT ?_
      refine AWp.seq ?_
      refine AWp.region ?_
      obtain ⟨r21, e20, h⟩ := bindS h
      refine AOps.cc hT hA {} (by (repeat (cbv; simp only [f11, c19])); first | done | cbv) (lb rfl) (R97w hA e20) rfl (.inl rfl) rfl rfl rfl (lb rfl) rfl rfl ?_
      refine AOps.cd hT hA {} (by (repeat (cbv; simp only [f11, c19])); first | done | cbv) (lb rfl) ?_
      refine nT ?_
      refine AWp.ret ?_
      cases soI h
      exact ⟨rfl, rfl, rfl, lb rfl, _, rfl⟩
    · replace h := cF c19 h
      refine AWp.cdT rfl (by first | rfl | simp only [f11, c19, Bool.not_true, Bool.not_false, cond_true, cond_false]) ?_
      refine AWp.seq ?_
      refine AWp.rg hT hA {} (by (repeat (cbv; simp only [f11, c19])); first | done | cbv) (lb rfl) ?_
      refine nT ?_
      refine AWp.ret ?_
      refine rT ?_
      cases soI h
      exact ⟨rfl, rfl, rfl, lb rfl, _, rfl⟩
  · replace h := (eL (eR h))
    refine AOps.cc hT hA { tk := [17, 18], esc := [8, 9] } (by cbv) (lb rfl) (R70wb hA e6) rfl (.inl rfl) rfl rfl rfl (lb rfl) rfl rfl ?_
    refine AOps.cd hT hA { tk := [17, 18], esc := [8, 9] } (by cbv) (lb rfl) ?_
    refine nT ?_
    refine AWp.seq ?_
    refine AWp.seq ?_
    have f22 := zeqF hA (a := 50) (b := 0) (c := false) rfl
    refine AWp.rg hT hA {} (by (repeat (cbv; simp only [f22])); first | done | cbv) (lb rfl) ?_
    refine nT ?_
    refine AWp.cdT rfl (by first | rfl | simp only [f22, Bool.not_true, Bool.not_false, cond_true, cond_false]) ?_
    refine AWp.seq ?_
    refine AWp.rg hT hA {} (by (repeat (cbv; simp only [f22])); first | done | cbv) (lb rfl) ?_
    refine nT ?_
    refine AWp.ret ?_
    refine rT ?_
    cases soI h
    exact ⟨rfl, rfl, rfl, lb rfl, _, rfl⟩
  · replace h := (eR (eR h))
    refine AOps.cc hT hA { tk := [17, 18], esc := [8, 9] } (by cbv) (lb rfl) (R70wc hA e6) rfl (.inl rfl) rfl rfl rfl (lb rfl) rfl rfl ?_
    refine AOps.cd hT hA { tk := [17, 18], esc := [8, 9] } (by cbv) (lb rfl) ?_
    refine nT ?_
    refine AWp.seq ?_
    refine AWp.seq ?_
    have f23 := zeqF hA (a := 50) (b := 0) (c := false) rfl
    refine AWp.rg hT hA {} (by (repeat (cbv; simp only [f23])); first | done | cbv) (lb rfl) ?_
    refine nT ?_
    refine AWp.cdT rfl (by first | rfl | simp only [f23, Bool.not_true, Bool.not_false, cond_true, cond_false]) ?_
    refine AWp.seq ?_
    refine AWp.rg hT hA {} (by (repeat (cbv; simp only [f23])); first | done | cbv) (lb rfl) ?_
    refine nT ?_
    refine AWp.ret ?_
    refine rT ?_
    cases soI h
    exact ⟨rfl, rfl, rfl, lb rfl, _, rfl⟩

theorem R96w {A : Ar} (hA : A = Ar.std) {x1 : Int} {x2 : List D} {x3 : Int} {x4 : List D} {x5 : Int} {x6 : Int} {x7 : Int} {x8 : Int} {x9 : List D} {v56 : Bool} (h : R96 A x1 x2 x3 x4 x5 x6 x7 x8 x9 = some v56) : ACall Try.prog 96 [(.d (.agg [(.int .i64 x1), (.list 3 x2)])), (.d (.agg [(.int .i64 x3), (.list 3 x4)])), (.mref 0 1 x5 x6), (.d (.int .i64 x7)), (.d (.int .i64 x8))] [(.arr 1 x9)] (.d (.bool v56)) [(.arr 1 x9)] := by
  unfold R96 at h
  refine ACall.enter hT (fn := Try.f96) Try.func96 rfl (by decide) (by simp [Try.f96]) rfl rfl rfl rfl (lb rfl) ?_
  refine AWp.seq ?_
  refine AWp.rg hT hA {} (by cbv) (lb rfl) ?_
  refine nT ?_
  refine AWp.seq ?_
  refine AWp.seq ?_
  refine AWp.rg hT hA {} (by cbv) (lb rfl) ?_
  refine nT ?_
  refine AWp.block ?_
  obtain ⟨xK55, hxK55, K55, hK55, hkK55⟩ := bindK h
  refine AWp.cutX 0 [] [] 1 (lb rfl) (fun τ => K55 (.inl ()) = some v56 ∧ τ = { env := [], heap := [(.arr 1 x9)], n := 40 }) ?_ ?_
  · skip
    refine AWp.iter hxK55 [2, 3, 4, 6, 14, 15, 16] [] 1 (lb rfl) (fun v32 => { env := [(2, (.mref 0 1 x5 x6)), (3, (.d (.int .i64 x7))), (4, (.d (.int .i64 x8))), (6, (.lbox [(.d (.int .i64 x3)), (.d (.list 3 x4))])), (14, (.d (.list 3 x2))), (15, (.d (.int .i64 (A.len x2)))), (16, (.d (.int .i64 v32)))], heap := [(.arr 1 x9)], n := 40 }) ⟨rfl, (by cbv)⟩ ?_
    rintro v32 eK55 hsK55
    dsimp only [R96L0] at hsK55
    refine AWp.seq ?_
    refine AWp.rg hT hA {} (by cbv) (lb rfl) ?_
    refine nT ?_
    refine AWp.seq ?_
    rcases tf (A.zlt v32 (A.len x2)) with c33 | c33
    · replace hsK55 := cT c33 hsK55
      refine AWp.cdT rfl (by first | rfl | simp only [c33, Bool.not_true, Bool.not_false, cond_true, cond_false]) ?_
      refine AWp.skip ?_
      refine nT ?_
      refine AWp.seq ?_
      refine AWp.block ?_
      refine AWp.seq ?_
      obtain ⟨⟨a34, a35, a36⟩, e37, hsK55⟩ := bindS hsK55
      obtain ⟨f38, f39⟩ := gtI e37
      refine AWp.rg hT hA { tk := [19] } (by (repeat (cbv; simp only [c33, f38, f39])); first | done | cbv) (lb rfl) ?_
      refine nT ?_
      refine AWp.seq ?_
      obtain ⟨v52, hvK53, hsK55⟩ := bindS hsK55
      refine AWp.cutN [2, 3, 4, 6, 14, 15, 16, 38] [] 1 (lb rfl) (fun τ => τ = { env := [(2, (.mref 0 1 x5 x6)), (3, (.d (.int .i64 x7))), (4, (.d (.int .i64 x8))), (6, (.lbox [(.d (.int .i64 x3)), (.d (.list 3 x4))])), (14, (.d (.list 3 x2))), (15, (.d (.int .i64 (A.len x2)))), (16, (.d (.int .i64 v32))), (38, (.d (.bool v52)))], heap := [(.arr 1 x9)], n := 40 }) ?_ ?_
      · skip
        refine AWp.regionDraw rfl (lb rfl) ?_
        rcases tf (A.zeq a34 x7) with c40 | c40
        · replace hvK53 := cT c40 hvK53
          obtain ⟨_, e41, hvK53⟩ := bindS hvK53
          have f42 := nkI e41
          obtain ⟨r44, e43, hvK53⟩ := bindS hvK53
          refine DOps.c0 hT hA {} rfl (by (repeat (cbv; simp only [c33, c40, f42])); first | done | cbv) (R74w hA e43) rfl rfl (lb rfl) rfl rfl ?_
          obtain ⟨_, e45, hvK53⟩ := bindS hvK53
          have f47 := ckI e45
          obtain ⟨_, e46, hvK53⟩ := bindS hvK53
          have f48 := ckI e46
          obtain ⟨a49, e50, hvK53⟩ := bindS hvK53
          have f51 := gcI e50
          refine DOps.cd hT hA {} rfl (by (repeat (cbv; simp only [c33, c40, f42, f47, f48, f51])); first | done | cbv) (by kernel_rfl) ?_
          cases soI hvK53
          exact oNi ⟨rfl, (by first | (cbv; done) | ((repeat (cbv; simp only [c33, c40])); first | done | cbv))⟩
        · replace hvK53 := cF c40 hvK53
          refine DOps.cd hT hA {} rfl (by (repeat (cbv; simp only [c33, c40])); first | done | cbv) (by kernel_rfl) ?_
          cases soI hvK53
          exact oNi ⟨rfl, (by first | (cbv; done) | ((repeat (cbv; simp only [c33, c40])); first | done | cbv))⟩
      · rintro _ rfl
        refine nT ?_
        rcases tf v52 with c54 | c54
        · replace hsK55 := cT c54 hsK55
          refine AWp.cdT rfl (by first | rfl | simp only [c54, Bool.not_true, Bool.not_false, cond_true, cond_false]) ?_
          refine AWp.seq ?_
          refine AWp.rg hT hA {} (by (repeat (cbv; simp only [c54])); first | done | cbv) (lb rfl) ?_
          refine nT ?_
          refine AWp.ret ?_
          refine rB ?_
          refine rT ?_
          refine rT ?_
          refine exL hsK55 fun hx => ?_
          subst hx
          refine oxR ?_
          replace hkK55 := (eR (hK55 _ hkK55))
          refine rB ?_
          refine rT ?_
          cases soI hkK55
          exact ⟨rfl, rfl, rfl, lb rfl, _, rfl⟩
        · replace hsK55 := cF c54 hsK55
          refine AWp.cdF rfl (by first | rfl | simp only [c54, Bool.not_true, Bool.not_false, cond_true, cond_false]) ?_
          refine AWp.skip ?_
          refine nB ?_
          refine nT ?_
          refine AWp.rg hT hA {} (by (repeat (cbv; simp only [c54])); first | done | cbv) (lb rfl) ?_
          exact nT ⟨_, (soI hsK55).symm, rfl, (by first | (cbv; done) | ((repeat (cbv; simp only [c54])); first | done | cbv))⟩
    · replace hsK55 := cF c33 hsK55
      refine AWp.cdF rfl (by first | rfl | simp only [c33, Bool.not_true, Bool.not_false, cond_true, cond_false]) ?_
      refine AWp.exit ?_
      refine xT ?_
      refine xT ?_
      refine exL hsK55 fun hx => ?_
      subst hx
      exact oxI ⟨rfl, hkK55, (by first | (cbv; done) | ((repeat (cbv; simp only [c33])); first | done | cbv))⟩
  · rintro _ ⟨hkK55, rfl⟩
    have h := (eL (hK55 _ hkK55))
    refine xB ?_
    refine nT ?_
    refine AWp.seq ?_
    refine AWp.rg hT hA {} (by cbv) (lb rfl) ?_
    refine nT ?_
    refine AWp.ret ?_
    cases soI h
    exact ⟨rfl, rfl, rfl, lb rfl, _, rfl⟩

theorem R100w {A : Ar} (hA : A = Ar.std) {x1 : Int} {x2 : List D} {x3 : Int} {x4 : List D} {v307 : List D} (h : R100 A x1 x2 x3 x4 = some v307) : ACall Try.prog 100 [(.d (.agg [(.int .i64 x1), (.list 3 x2)])), (.d (.agg [(.int .i64 x3), (.list 3 x4)]))] [] (.d (.list 1 v307)) [] := by
  unfold R100 at h
  refine ACall.enter hT (fn := Try.f100) Try.func100 rfl (by decide) (by simp [Try.f100]) rfl rfl rfl rfl (lb rfl) ?_
  refine AWp.seq ?_
  refine AWp.rg hT hA {} (by cbv) (lb rfl) ?_
  refine nT ?_
  refine AWp.seq ?_
  obtain ⟨_, e8, h⟩ := bindS h
  have f5 := ckI e8
  obtain ⟨_, e9, h⟩ := bindS h
  have f6 := ckI e9
  obtain ⟨_, e10, h⟩ := bindS h
  have f7 := ckI e10
  refine AWp.rg hT hA { tk := [12] } (by (repeat (cbv; simp only [f5, f6, f7])); first | done | cbv) (lb rfl) ?_
  refine nT ?_
  refine AWp.seq ?_
  refine AWp.seq ?_
  refine AWp.rg hT hA {} (by cbv) (lb rfl) ?_
  refine nT ?_
  refine AWp.block ?_
  obtain ⟨xK32, hxK32, K32, hK32, hkK32⟩ := bindK h
  refine AWp.cutX 0 [2, 3, 5] [] 1 (lb rfl) (fun τ => ∃ v31, K32 v31 = some v307 ∧ τ = { env := [(2, (.lbox [(.d (.int .i64 x1)), (.d (.list 3 x2))])), (3, (.lbox [(.d (.int .i64 x3)), (.d (.list 3 x4))])), (5, (.mref 0 1 0 x1))], heap := [(.arr 1 v31)], n := 67 }) ?_ ?_
  · skip
    refine AWp.iter hxK32 [2, 3, 5, 14, 15] [] 1 (lb rfl) (fun (v20, v21) => { env := [(2, (.lbox [(.d (.int .i64 x1)), (.d (.list 3 x2))])), (3, (.lbox [(.d (.int .i64 x3)), (.d (.list 3 x4))])), (5, (.mref 0 1 0 x1)), (14, (.d (.int .i64 x1))), (15, (.d (.int .i64 v20)))], heap := [(.arr 1 v21)], n := 67 }) ⟨rfl, (by cbv)⟩ ?_
    rintro ⟨v20, v21⟩ eK32 hsK32
    dsimp only [R100L0] at hsK32
    refine AWp.seq ?_
    refine AWp.rg hT hA {} (by cbv) (lb rfl) ?_
    refine nT ?_
    refine AWp.seq ?_
    rcases tf (A.zlt v20 x1) with c22 | c22
    · replace hsK32 := cT c22 hsK32
      refine AWp.cdT rfl (by first | rfl | simp only [c22, Bool.not_true, Bool.not_false, cond_true, cond_false]) ?_
      refine AWp.skip ?_
      refine nT ?_
      refine AWp.seq ?_
      refine AWp.block ?_
      refine AWp.seq ?_
      refine AWp.rg hT hA {} (by (repeat (cbv; simp only [c22])); first | done | cbv) (lb rfl) ?_
      refine nT ?_
      obtain ⟨_, e23, hsK32⟩ := bindS hsK32
      have f24 := nkI e23
      obtain ⟨_, e25, hsK32⟩ := bindS hsK32
      have f27 := ckI e25
      obtain ⟨_, e26, hsK32⟩ := bindS hsK32
      have f28 := ckI e26
      obtain ⟨d29, e30, hsK32⟩ := bindS hsK32
      refine AWp.rg hT hA { tk := [23] } (by (repeat (cbv; simp only [c22, f24, f27, f28, e30])); first | done | cbv) (lb rfl) ?_
      refine nB ?_
      refine nT ?_
      refine AWp.rg hT hA {} (by (repeat (cbv; simp only [c22])); first | done | cbv) (lb rfl) ?_
      exact nT ⟨_, (soI hsK32).symm, rfl, (by first | (cbv; done) | ((repeat (cbv; simp only [c22])); first | done | cbv))⟩
    · replace hsK32 := cF c22 hsK32
      refine AWp.cdF rfl (by first | rfl | simp only [c22, Bool.not_true, Bool.not_false, cond_true, cond_false]) ?_
      refine AWp.exit ?_
      refine xT ?_
      refine xT ?_
      refine exL hsK32 fun hx => ?_
      subst hx
      exact oxI ⟨rfl, _, hkK32, (by first | (cbv; done) | ((repeat (cbv; simp only [c22])); first | done | cbv))⟩
  · rintro _ ⟨v31, hkK32, rfl⟩
    have h := (hK32 _ hkK32)
    refine xB ?_
    refine nT ?_
    refine AWp.seq ?_
    refine AWp.seq ?_
    refine AWp.rg hT hA {} (by cbv) (lb rfl) ?_
    refine nT ?_
    refine AWp.block ?_
    obtain ⟨xK302, hxK302, K302, hK302, hkK302⟩ := bindK h
    refine AWp.cutX 2 [5] [] 1 (lb rfl) (fun τ => ∃ v301, K302 v301 = some v307 ∧ τ = { env := [(5, (.mref 0 1 0 x1))], heap := [(.arr 1 v301)], n := 67 }) ?_ ?_
    · skip
      refine AWp.iter hxK302 [2, 3, 5, 30, 31] [] 1 (lb rfl) (fun (v166, v167) => { env := [(2, (.lbox [(.d (.int .i64 x1)), (.d (.list 3 x2))])), (3, (.lbox [(.d (.int .i64 x3)), (.d (.list 3 x4))])), (5, (.mref 0 1 0 x1)), (30, (.d (.int .i64 (A.wrp .i64 (A.zmul x1 x3))))), (31, (.d (.int .i64 v166)))], heap := [(.arr 1 v167)], n := 67 }) ⟨rfl, (by cbv)⟩ ?_
      rintro ⟨v166, v167⟩ eK302 hsK302
      dsimp only [R100L3] at hsK302
      refine AWp.seq ?_
      refine AWp.rg hT hA {} (by cbv) (lb rfl) ?_
      refine nT ?_
      refine AWp.seq ?_
      rcases tf (A.zlt v166 (A.wrp .i64 (A.zmul x1 x3))) with c168 | c168
      · replace hsK302 := cT c168 hsK302
        refine AWp.cdT rfl (by first | rfl | simp only [c168, Bool.not_true, Bool.not_false, cond_true, cond_false]) ?_
        refine AWp.skip ?_
        refine nT ?_
        refine AWp.seq ?_
        refine AWp.block ?_
        refine AWp.seq ?_
        refine AWp.rg hT hA {} (by (repeat (cbv; simp only [c168])); first | done | cbv) (lb rfl) ?_
        refine nT ?_
        refine AWp.block ?_
        obtain ⟨xK300, hxK300, K300, hK300, hkK300⟩ := bindK hsK302
        refine AWp.cutX 4 [2, 3, 5, 30, 31] [] 1 (lb rfl) (fun τ => ∃ v299, K300 v299 = some eK302 ∧ τ = { env := [(2, (.lbox [(.d (.int .i64 x1)), (.d (.list 3 x2))])), (3, (.lbox [(.d (.int .i64 x3)), (.d (.list 3 x4))])), (5, (.mref 0 1 0 x1)), (30, (.d (.int .i64 (A.wrp .i64 (A.zmul x1 x3))))), (31, (.d (.int .i64 v166)))], heap := [(.arr 1 v299)], n := 67 }) ?_ ?_
        · skip
          refine AWp.iter hxK300 [2, 3, 5, 30, 31, 34, 35] [] 1 (lb rfl) (fun (v233, v234) => { env := [(2, (.lbox [(.d (.int .i64 x1)), (.d (.list 3 x2))])), (3, (.lbox [(.d (.int .i64 x3)), (.d (.list 3 x4))])), (5, (.mref 0 1 0 x1)), (30, (.d (.int .i64 (A.wrp .i64 (A.zmul x1 x3))))), (31, (.d (.int .i64 v166))), (34, (.d (.int .i64 x1))), (35, (.d (.int .i64 v233)))], heap := [(.arr 1 v234)], n := 67 }) ⟨rfl, (by first | (cbv; done) | ((repeat (cbv; simp only [c168])); first | done | cbv))⟩ ?_
          rintro ⟨v233, v234⟩ eK300 hsK300
          dsimp only [R100L2] at hsK300
          refine AWp.seq ?_
          refine AWp.rg hT hA {} (by cbv) (lb rfl) ?_
          refine nT ?_
          refine AWp.seq ?_
          rcases tf (A.zlt v233 x1) with c235 | c235
          · replace hsK300 := cT c235 hsK300
            refine AWp.cdT rfl (by first | rfl | simp only [c235, Bool.not_true, Bool.not_false, cond_true, cond_false]) ?_
            refine AWp.skip ?_
            refine nT ?_
            refine AWp.seq ?_
            refine AWp.block ?_
            refine AWp.seq ?_
            refine AWp.rg hT hA {} (by (repeat (cbv; simp only [c235])); first | done | cbv) (lb rfl) ?_
            refine nT ?_
            refine AWp.seq ?_
            refine AWp.region ?_
            obtain ⟨_, e236, hsK300⟩ := bindS hsK300
            have f238 := ckI e236
            obtain ⟨_, e237, hsK300⟩ := bindS hsK300
            have f239 := ckI e237
            obtain ⟨a240, e241, hsK300⟩ := bindS hsK300
            have f242 := gcI e241
            obtain ⟨r244, e243, hsK300⟩ := bindS hsK300
            refine AOps.cc hT hA {} (by (repeat (cbv; simp only [c235, f238, f239, f242])); first | done | cbv) (lb rfl) (R78w hA e243) rfl (.inr rfl) rfl rfl rfl (lb rfl) rfl rfl ?_
            refine AOps.cd hT hA {} (by (repeat (cbv; simp only [c235, f238, f239, f242])); first | done | cbv) (lb rfl) ?_
            refine nT ?_
            refine AWp.block ?_
            obtain ⟨xK298, hxK298, K298, hK298, hkK298⟩ := bindK hsK300
            refine AWp.cutX 6 [2, 3, 5, 30, 31, 34, 35] [] 1 (lb rfl) (fun τ => ∃ v297, K298 v297 = some eK300 ∧ τ = { env := [(2, (.lbox [(.d (.int .i64 x1)), (.d (.list 3 x2))])), (3, (.lbox [(.d (.int .i64 x3)), (.d (.list 3 x4))])), (5, (.mref 0 1 0 x1)), (30, (.d (.int .i64 (A.wrp .i64 (A.zmul x1 x3))))), (31, (.d (.int .i64 v166))), (34, (.d (.int .i64 x1))), (35, (.d (.int .i64 v233)))], heap := [(.arr 1 v297)], n := 67 }) ?_ ?_
            · skip
              refine AWp.iter hxK298 [2, 3, 5, 7, 30, 31, 34, 35, 42, 43, 44] [] 1 (lb rfl) (fun (v270, v271) => { env := [(2, (.lbox [(.d (.int .i64 x1)), (.d (.list 3 x2))])), (3, (.lbox [(.d (.int .i64 x3)), (.d (.list 3 x4))])), (5, (.mref 0 1 0 x1)), (7, (.d (.int .i64 v233))), (30, (.d (.int .i64 (A.wrp .i64 (A.zmul x1 x3))))), (31, (.d (.int .i64 v166))), (34, (.d (.int .i64 x1))), (35, (.d (.int .i64 v233))), (42, (.own 1 r244)), (43, (.d (.int .i64 (A.len r244)))), (44, (.d (.int .i64 v270)))], heap := [(.arr 1 v271)], n := 67 }) ⟨rfl, (by first | (cbv; done) | ((repeat (cbv; simp only [c235])); first | done | cbv))⟩ ?_
              rintro ⟨v270, v271⟩ eK298 hsK298
              dsimp only [R100L1] at hsK298
              refine AWp.seq ?_
              refine AWp.rg hT hA {} (by cbv) (lb rfl) ?_
              refine nT ?_
              refine AWp.seq ?_
              rcases tf (A.zlt v270 (A.len r244)) with c272 | c272
              · replace hsK298 := cT c272 hsK298
                refine AWp.cdT rfl (by first | rfl | simp only [c272, Bool.not_true, Bool.not_false, cond_true, cond_false]) ?_
                refine AWp.skip ?_
                refine nT ?_
                refine AWp.seq ?_
                refine AWp.block ?_
                refine AWp.seq ?_
                obtain ⟨a273, e274, hsK298⟩ := bindS hsK298
                obtain ⟨f275, f276⟩ := gtI e274
                refine AWp.rg hT hA {} (by (repeat (cbv; simp only [c272, f275, f276])); first | done | cbv) (lb rfl) ?_
                refine nT ?_
                refine AWp.seq ?_
                refine AWp.region ?_
                obtain ⟨r278, e277, hsK298⟩ := bindS hsK298
                refine AOps.cc hT hA {} (by (repeat (cbv; simp only [c272])); first | done | cbv) (lb rfl) (R96w hA e277) rfl (.inl rfl) rfl rfl rfl (lb rfl) rfl rfl ?_
                refine AOps.cd hT hA {} (by (repeat (cbv; simp only [c272])); first | done | cbv) (lb rfl) ?_
                refine nT ?_
                obtain ⟨v295, hvK296, hsK298⟩ := bindS hsK298
                refine AWp.cutN [2, 3, 5, 7, 30, 31, 34, 35, 42, 43, 44] [] 1 (lb rfl) (fun τ => τ = { env := [(2, (.lbox [(.d (.int .i64 x1)), (.d (.list 3 x2))])), (3, (.lbox [(.d (.int .i64 x3)), (.d (.list 3 x4))])), (5, (.mref 0 1 0 x1)), (7, (.d (.int .i64 v233))), (30, (.d (.int .i64 (A.wrp .i64 (A.zmul x1 x3))))), (31, (.d (.int .i64 v166))), (34, (.d (.int .i64 x1))), (35, (.d (.int .i64 v233))), (42, (.own 1 r244)), (43, (.d (.int .i64 (A.len r244)))), (44, (.d (.int .i64 v270)))], heap := [(.arr 1 v295)], n := 67 }) ?_ ?_
                · skip
                  rcases tf r278 with c279 | c279
                  · replace hvK296 := cT c279 hvK296
                    refine AWp.cdF rfl (by first | rfl | simp only [c272, c279, Bool.not_true, Bool.not_false, cond_true, cond_false]) ?_
                    refine AWp.skip ?_
                    cases soI hvK296
                    exact oNi ⟨rfl, (by first | (cbv; done) | ((repeat (cbv; simp only [c272, c279])); first | done | cbv))⟩
                  · replace hvK296 := cF c279 hvK296
                    refine AWp.cdT rfl (by first | rfl | simp only [c272, c279, Bool.not_true, Bool.not_false, cond_true, cond_false]) ?_
                    obtain ⟨_, e280, hvK296⟩ := bindS hvK296
                    have f282 := ckI e280
                    obtain ⟨_, e281, hvK296⟩ := bindS hvK296
                    have f283 := ckI e281
                    obtain ⟨a284, e285, hvK296⟩ := bindS hvK296
                    have f286 := gcI e285
                    obtain ⟨_, e287, hvK296⟩ := bindS hvK296
                    have f288 := nkI e287
                    obtain ⟨_, e289, hvK296⟩ := bindS hvK296
                    have f291 := ckI e289
                    obtain ⟨_, e290, hvK296⟩ := bindS hvK296
                    have f292 := ckI e290
                    obtain ⟨d293, e294, hvK296⟩ := bindS hvK296
                    refine AWp.rd hT hA { tk := [61] } rfl (by (repeat (cbv; simp only [c272, c279, f282, f283, f286, f288, f291, f292, e294])); first | done | cbv) (by kernel_rfl) (lb rfl) ?_
                    cases soI hvK296
                    exact oNi ⟨rfl, (by first | (cbv; done) | ((repeat (cbv; simp only [c272, c279])); first | done | cbv))⟩
                · rintro _ rfl
                  refine nB ?_
                  refine nT ?_
                  refine AWp.rg hT hA {} (by cbv) (lb rfl) ?_
                  exact nT ⟨_, (soI hsK298).symm, rfl, (by cbv)⟩
              · replace hsK298 := cF c272 hsK298
                refine AWp.cdF rfl (by first | rfl | simp only [c272, Bool.not_true, Bool.not_false, cond_true, cond_false]) ?_
                refine AWp.exit ?_
                refine xT ?_
                refine xT ?_
                refine exL hsK298 fun hx => ?_
                subst hx
                exact oxI ⟨rfl, _, hkK298, (by first | (cbv; done) | ((repeat (cbv; simp only [c272])); first | done | cbv))⟩
            · rintro _ ⟨v297, hkK298, rfl⟩
              have hsK300 := (hK298 _ hkK298)
              refine xB ?_
              refine nB ?_
              refine nT ?_
              refine AWp.rg hT hA {} (by cbv) (lb rfl) ?_
              exact nT ⟨_, (soI hsK300).symm, rfl, (by cbv)⟩
          · replace hsK300 := cF c235 hsK300
            refine AWp.cdF rfl (by first | rfl | simp only [c235, Bool.not_true, Bool.not_false, cond_true, cond_false]) ?_
            refine AWp.exit ?_
            refine xT ?_
            refine xT ?_
            refine exL hsK300 fun hx => ?_
            subst hx
            exact oxI ⟨rfl, _, hkK300, (by first | (cbv; done) | ((repeat (cbv; simp only [c235])); first | done | cbv))⟩
        · rintro _ ⟨v299, hkK300, rfl⟩
          have hsK302 := (hK300 _ hkK300)
          refine xB ?_
          refine nB ?_
          refine nT ?_
          refine AWp.rg hT hA {} (by cbv) (lb rfl) ?_
          exact nT ⟨_, (soI hsK302).symm, rfl, (by cbv)⟩
      · replace hsK302 := cF c168 hsK302
        refine AWp.cdF rfl (by first | rfl | simp only [c168, Bool.not_true, Bool.not_false, cond_true, cond_false]) ?_
        refine AWp.exit ?_
        refine xT ?_
        refine xT ?_
        refine exL hsK302 fun hx => ?_
        subst hx
        exact oxI ⟨rfl, _, hkK302, (by first | (cbv; done) | ((repeat (cbv; simp only [c168])); first | done | cbv))⟩
    · rintro _ ⟨v301, hkK302, rfl⟩
      have h := (hK302 _ hkK302)
      refine xB ?_
      refine nT ?_
      refine AWp.seq ?_
      refine AWp.rg hT hA { tk := [5, 66] } (by cbv) (lb rfl) ?_
      refine nT ?_
      obtain ⟨l303, e304, h⟩ := bindS h
      obtain ⟨f305, f306⟩ := fzI hA e304
      refine AWp.freeze (s := 4) (i := 0) rfl rfl f305 f306 ?_
      refine AWp.ret ?_
      cases soI h
      exact ⟨rfl, rfl, rfl, lb rfl, _, rfl⟩

theorem R88aw {A : Ar} (hA : A = Ar.std) {x1 : List D} {v64 : List D} (h : R88a A x1 = some v64) : ACall Try.prog 88 [(.d (.list 1 x1))] [] (.own 2 v64) [] := by
  unfold R88a at h
  refine ACall.enter hT (fn := Try.f88) Try.func88 rfl (by decide) (by simp [Try.f88]) rfl rfl rfl rfl (lb rfl) ?_
  refine AWp.seq ?_
  refine AWp.rg hT hA {} (by cbv) (lb rfl) ?_
  refine nT ?_
  refine AWp.seq ?_
  refine AWp.rg hT hA {} (by cbv) (lb rfl) ?_
  refine nT ?_
  refine AWp.seq ?_
  refine AWp.seq ?_
  refine AWp.rg hT hA {} (by cbv) (lb rfl) ?_
  refine nT ?_
  refine AWp.block ?_
  obtain ⟨xK63, hxK63, K63, hK63, hkK63⟩ := bindK h
  refine AWp.cutX 0 [3] [] 0 (lb rfl) (fun τ => ∃ v62, K63 v62 = some v64 ∧ τ = { env := [(3, (.own 2 v62))], heap := [], n := 31 }) ?_ ?_
  · skip
    refine AWp.iter hxK63 [3, 8, 9, 10] [] 0 (lb rfl) (fun (v31, v32) => { env := [(3, (.own 2 v31)), (8, (.d (.list 1 x1))), (9, (.d (.int .i64 (A.len x1)))), (10, (.d (.int .i64 v32)))], heap := [], n := 31 }) ⟨rfl, (by cbv)⟩ ?_
    rintro ⟨v31, v32⟩ eK63 hsK63
    dsimp only [R88aL1] at hsK63
    refine AWp.seq ?_
    refine AWp.rg hT hA {} (by cbv) (lb rfl) ?_
    refine nT ?_
    refine AWp.seq ?_
    rcases tf (A.zlt v32 (A.len x1)) with c33 | c33
    · replace hsK63 := cT c33 hsK63
      refine AWp.cdT rfl (by first | rfl | simp only [c33, Bool.not_true, Bool.not_false, cond_true, cond_false]) ?_
      refine AWp.skip ?_
      refine nT ?_
      refine AWp.seq ?_
      refine AWp.block ?_
      refine AWp.seq ?_
      obtain ⟨a34, e35, hsK63⟩ := bindS hsK63
      obtain ⟨f36, f37⟩ := gtI e35
      refine AWp.rg hT hA {} (by (repeat (cbv; simp only [c33, f36, f37])); first | done | cbv) (lb rfl) ?_
      refine nT ?_
      refine AWp.seq ?_
      refine AWp.region ?_
      obtain ⟨r39, e38, hsK63⟩ := bindS hsK63
      refine AOps.cc hT hA {} (by (repeat (cbv; simp only [c33])); first | done | cbv) (lb rfl) (R78w hA e38) rfl (.inl rfl) rfl rfl rfl (lb rfl) rfl rfl ?_
      refine AOps.cd hT hA {} (by (repeat (cbv; simp only [c33])); first | done | cbv) (lb rfl) ?_
      refine nT ?_
      refine AWp.block ?_
      obtain ⟨xK61, hxK61, K61, hK61, hkK61⟩ := bindK hsK63
      refine AWp.cutX 2 [3, 8, 9, 10] [] 0 (lb rfl) (fun τ => ∃ v60, K61 v60 = some eK63 ∧ τ = { env := [(3, (.own 2 v60)), (8, (.d (.list 1 x1))), (9, (.d (.int .i64 (A.len x1)))), (10, (.d (.int .i64 v32)))], heap := [], n := 31 }) ?_ ?_
      · skip
        refine AWp.iter hxK61 [3, 4, 8, 9, 10, 16, 17, 18] [] 0 (lb rfl) (fun (v49, v50) => { env := [(3, (.own 2 v49)), (4, (.d (.int .i64 v32))), (8, (.d (.list 1 x1))), (9, (.d (.int .i64 (A.len x1)))), (10, (.d (.int .i64 v32))), (16, (.own 1 r39)), (17, (.d (.int .i64 (A.len r39)))), (18, (.d (.int .i64 v50)))], heap := [], n := 31 }) ⟨rfl, (by first | (cbv; done) | ((repeat (cbv; simp only [c33])); first | done | cbv))⟩ ?_
        rintro ⟨v49, v50⟩ eK61 hsK61
        dsimp only [R88aL0] at hsK61
        refine AWp.seq ?_
        refine AWp.rg hT hA {} (by cbv) (lb rfl) ?_
        refine nT ?_
        refine AWp.seq ?_
        rcases tf (A.zlt v50 (A.len r39)) with c51 | c51
        · replace hsK61 := cT c51 hsK61
          refine AWp.cdT rfl (by first | rfl | simp only [c51, Bool.not_true, Bool.not_false, cond_true, cond_false]) ?_
          refine AWp.skip ?_
          refine nT ?_
          refine AWp.seq ?_
          refine AWp.block ?_
          refine AWp.seq ?_
          obtain ⟨a52, e53, hsK61⟩ := bindS hsK61
          obtain ⟨f54, f55⟩ := gtI e53
          refine AWp.rg hT hA {} (by (repeat (cbv; simp only [c51, f54, f55])); first | done | cbv) (lb rfl) ?_
          refine nT ?_
          obtain ⟨l56, e57, hsK61⟩ := bindS hsK61
          obtain ⟨f58, f59⟩ := apI e57
          refine AWp.rg hT hA { tk := [3, 27] } (by (repeat (cbv; simp only [c51, f58, f59])); first | done | cbv) (lb rfl) ?_
          refine nB ?_
          refine nT ?_
          refine AWp.rg hT hA {} (by (repeat (cbv; simp only [c51])); first | done | cbv) (lb rfl) ?_
          exact nT ⟨_, (soI hsK61).symm, rfl, (by first | (cbv; done) | ((repeat (cbv; simp only [c51])); first | done | cbv))⟩
        · replace hsK61 := cF c51 hsK61
          refine AWp.cdF rfl (by first | rfl | simp only [c51, Bool.not_true, Bool.not_false, cond_true, cond_false]) ?_
          refine AWp.exit ?_
          refine xT ?_
          refine xT ?_
          refine exL hsK61 fun hx => ?_
          subst hx
          exact oxI ⟨rfl, _, hkK61, (by first | (cbv; done) | ((repeat (cbv; simp only [c51])); first | done | cbv))⟩
      · rintro _ ⟨v60, hkK61, rfl⟩
        have hsK63 := (hK61 _ hkK61)
        refine xB ?_
        refine nB ?_
        refine nT ?_
        refine AWp.rg hT hA {} (by cbv) (lb rfl) ?_
        exact nT ⟨_, (soI hsK63).symm, rfl, (by cbv)⟩
    · replace hsK63 := cF c33 hsK63
      refine AWp.cdF rfl (by first | rfl | simp only [c33, Bool.not_true, Bool.not_false, cond_true, cond_false]) ?_
      refine AWp.exit ?_
      refine xT ?_
      refine xT ?_
      refine exL hsK63 fun hx => ?_
      subst hx
      exact oxI ⟨rfl, _, hkK63, (by first | (cbv; done) | ((repeat (cbv; simp only [c33])); first | done | cbv))⟩
  · rintro _ ⟨v62, hkK63, rfl⟩
    have h := (hK63 _ hkK63)
    refine xB ?_
    refine nT ?_
    refine AWp.seq ?_
    refine AWp.rg hT hA { tk := [3, 30] } (by cbv) (lb rfl) ?_
    refine nT ?_
    refine AWp.ret ?_
    cases soI h
    exact ⟨rfl, rfl, rfl, lb rfl, _, rfl⟩

theorem R50w {A : Ar} (hA : A = Ar.std) {x1 : Int} {x2 : List D} {x3 : Int} {x4 : List D} {v17 : List D} {v18 : Int} (h : R50 A x1 x2 x3 x4 = some (v17, v18)) : ACall Try.prog 50 [(.d (.agg [(.int .i64 x1), (.list 3 x2)])), (.d (.agg [(.int .i64 x3), (.list 3 x4)]))] [] (.tuple [(.d (.list 2 v17)), (.d (.int .i64 v18))]) [] := by
  unfold R50 at h
  refine ACall.enter hT (fn := Try.f50) Try.func50 rfl (by decide) (by simp [Try.f50]) rfl rfl rfl rfl (lb rfl) ?_
  refine AWp.seq ?_
  refine AWp.rg hT hA {} (by cbv) (lb rfl) ?_
  refine nT ?_
  refine AWp.seq ?_
  refine AWp.seq ?_
  obtain ⟨v10, hvK11, h⟩ := bindS h
  refine AWp.cutN [2, 3, 13] [] 0 (lb rfl) (fun τ => τ = { env := [(2, (.lbox [(.d (.int .i64 x1)), (.d (.list 3 x2))])), (3, (.lbox [(.d (.int .i64 x3)), (.d (.list 3 x4))])), (13, (.d (.bool v10)))], heap := [], n := 18 }) ?_ ?_
  · skip
    refine AWp.region ?_
    obtain ⟨r6, e5, hvK11⟩ := bindS hvK11
    refine AOps.cc hT hA {} (by cbv) (lb rfl) (R34w hA e5) rfl (.inl rfl) rfl rfl rfl (lb rfl) rfl rfl ?_
    rcases tf r6 with c7 | c7
    · replace hvK11 := cT c7 hvK11
      obtain ⟨r9, e8, hvK11⟩ := bindS hvK11
      refine AOps.cc hT hA {} (by (repeat (cbv; simp only [c7])); first | done | cbv) (lb rfl) (R34w hA e8) rfl (.inl rfl) rfl rfl rfl (lb rfl) rfl rfl ?_
      refine AOps.cd hT hA {} (by (repeat (cbv; simp only [c7])); first | done | cbv) (lb rfl) ?_
      cases soI hvK11
      exact oNi ⟨rfl, (by first | (cbv; done) | ((repeat (cbv; simp only [c7])); first | done | cbv))⟩
    · replace hvK11 := cF c7 hvK11
      refine AOps.cd hT hA {} (by (repeat (cbv; simp only [c7])); first | done | cbv) (lb rfl) ?_
      cases soI hvK11
      exact oNi ⟨rfl, (by first | (cbv; done) | ((repeat (cbv; simp only [c7])); first | done | cbv))⟩
  · rintro _ rfl
    refine nT ?_
    rcases tf v10 with c12 | c12
    · replace h := cT c12 h
      refine AWp.cdT rfl (by first | rfl | simp only [c12, Bool.not_true, Bool.not_false, cond_true, cond_false]) ?_
      refine AWp.seq ?_
      refine AWp.rg hT hA {} (by (repeat (cbv; simp only [c12])); first | done | cbv) (lb rfl) ?_
      refine nT ?_
      refine AWp.ret ?_
      refine rT ?_
      cases soI h
      exact ⟨rfl, rfl, rfl, lb rfl, _, rfl⟩
    · replace h := cF c12 h
      refine AWp.cdF rfl (by first | rfl | simp only [c12, Bool.not_true, Bool.not_false, cond_true, cond_false]) ?_
      refine AWp.skip ?_
      refine nT ?_
      refine AWp.seq ?_
      refine AWp.region ?_
      obtain ⟨r14, e13, h⟩ := bindS h
      refine AOps.cc hT hA {} (by (repeat (cbv; simp only [c12])); first | done | cbv) (lb rfl) (R100w hA e13) rfl (.inl rfl) rfl rfl rfl (lb rfl) rfl rfl ?_
      obtain ⟨r16, e15, h⟩ := bindS h
      refine AOps.cc hT hA {} (by (repeat (cbv; simp only [c12])); first | done | cbv) (lb rfl) (R88aw hA e15) rfl (.inl rfl) rfl rfl rfl (lb rfl) rfl rfl ?_
      refine AOps.cd hT hA {} (by (repeat (cbv; simp only [c12])); first | done | cbv) (lb rfl) ?_
      refine nT ?_
      refine AWp.ret ?_
      cases soI h
      exact ⟨rfl, rfl, rfl, lb rfl, _, rfl⟩

theorem R94Bw {A : Ar} (hA : A = Ar.std) {self98 : Int → Int → List D → List D → List D → List D → Option (List D)} (ih98 : ∀ {x1 : Int} {x2 : Int} {x3 : List D} {x4 : List D} {x5 : List D} {x6 : List D} {y1 : List D}, self98 x1 x2 x3 x4 x5 x6 = some y1 → ACall Try.prog 94 [(.d (.int .i64 x1)), (.d (.int .i64 x2)), (.ptr 5 0), (.ptr 2 0), (.ptr 6 0), (.ptr 4 0), (.ptr 3 0)] [(.arr 1 x3), (.arr 1 x4), (.cells [(.ptr 0 0)]), (.cells [(.ptr 1 0)]), (.arr 1 x5), (.arr 1 x6), (.cells [(.func 94 [] [(.ptr 5 0), (.ptr 2 0), (.ptr 6 0), (.ptr 4 0), (.ptr 3 0)])])] (.tuple []) [(.arr 1 x3), (.arr 1 x4), (.cells [(.ptr 0 0)]), (.cells [(.ptr 1 0)]), (.arr 1 x5), (.arr 1 y1), (.cells [(.func 94 [] [(.ptr 5 0), (.ptr 2 0), (.ptr 6 0), (.ptr 4 0), (.ptr 3 0)])])]) {x1 : Int} {x2 : Int} {x3 : List D} {x4 : List D} {x5 : List D} {x6 : List D} {v180 : List D} (h : R94B A self98 x1 x2 x3 x4 x5 x6 = some v180) : ACall Try.prog 94 [(.d (.int .i64 x1)), (.d (.int .i64 x2)), (.ptr 5 0), (.ptr 2 0), (.ptr 6 0), (.ptr 4 0), (.ptr 3 0)] [(.arr 1 x3), (.arr 1 x4), (.cells [(.ptr 0 0)]), (.cells [(.ptr 1 0)]), (.arr 1 x5), (.arr 1 x6), (.cells [(.func 94 [] [(.ptr 5 0), (.ptr 2 0), (.ptr 6 0), (.ptr 4 0), (.ptr 3 0)])])] (.tuple []) [(.arr 1 x3), (.arr 1 x4), (.cells [(.ptr 0 0)]), (.cells [(.ptr 1 0)]), (.arr 1 x5), (.arr 1 v180), (.cells [(.func 94 [] [(.ptr 5 0), (.ptr 2 0), (.ptr 6 0), (.ptr 4 0), (.ptr 3 0)])])] := by
  unfold R94B at h
  refine ACall.enter hT (fn := Try.f94) Try.func94 rfl (by decide) (by simp [Try.f94]) rfl rfl rfl rfl (lb rfl) ?_
  refine AWp.seq ?_
  refine AWp.seq ?_
  refine AWp.region ?_
  obtain ⟨_, e7, h⟩ := bindS h
  have f9 := ckI e7
  obtain ⟨_, e8, h⟩ := bindS h
  have f10 := ckI e8
  obtain ⟨a11, e12, h⟩ := bindS h
  have f13 := gcI e12
  obtain ⟨r15, e14, h⟩ := bindS h
  refine AOps.cc hT hA {} (by (repeat (cbv; simp only [f9, f10, f13])); first | done | cbv) (lb rfl) (R91w hA e14) rfl (.inr rfl) rfl rfl rfl (lb rfl) rfl rfl ?_
  refine AOps.cd hT hA {} (by (repeat (cbv; simp only [f9, f10, f13])); first | done | cbv) (lb rfl) ?_
  refine nT ?_
  rcases tf r15 with c16 | c16
  · replace h := cT c16 h
    refine AWp.cdT rfl (by first | rfl | simp only [c16, Bool.not_true, Bool.not_false, cond_true, cond_false]) ?_
    refine AWp.ret ?_
    refine rT ?_
    cases soI h
    exact ⟨rfl, rfl, rfl, lb rfl, _, rfl⟩
  · replace h := cF c16 h
    refine AWp.cdF rfl (by first | rfl | simp only [c16, Bool.not_true, Bool.not_false, cond_true, cond_false]) ?_
    refine AWp.skip ?_
    refine nT ?_
    refine AWp.seq ?_
    obtain ⟨_, e17, h⟩ := bindS h
    have f19 := ckI e17
    obtain ⟨_, e18, h⟩ := bindS h
    have f20 := ckI e18
    obtain ⟨a21, e22, h⟩ := bindS h
    have f23 := gcI e22
    obtain ⟨_, e24, h⟩ := bindS h
    have f25 := nkI e24
    obtain ⟨_, e26, h⟩ := bindS h
    have f28 := ckI e26
    obtain ⟨_, e27, h⟩ := bindS h
    have f29 := ckI e27
    obtain ⟨d30, e31, h⟩ := bindS h
    refine AWp.rd hT hA { tk := [22] } rfl (by (repeat (cbv; simp only [c16, f19, f20, f23, f25, f28, f29, e31])); first | done | cbv) (by kernel_rfl) (lb rfl) ?_
    refine nT ?_
    refine AWp.seq ?_
    refine AWp.rg hT hA {} (by (repeat (cbv; simp only [c16])); first | done | cbv) (lb rfl) ?_
    refine nT ?_
    refine AWp.block ?_
    obtain ⟨xK179, hxK179, K179, hK179, hkK179⟩ := bindK h
    refine AWp.cutX 0 [] [] 7 (lb rfl) (fun τ => ∃ v178, K179 v178 = some v180 ∧ τ = { env := [], heap := [(.arr 1 x3), (.arr 1 x4), (.cells [(.ptr 0 0)]), (.cells [(.ptr 1 0)]), (.arr 1 x5), (.arr 1 v178), (.cells [(.func 94 [] [(.ptr 5 0), (.ptr 2 0), (.ptr 6 0), (.ptr 4 0), (.ptr 3 0)])])], n := 59 }) ?_ ?_
    · skip
      refine AWp.iter hxK179 [0, 1, 3, 4, 5, 6, 24] [] 7 (lb rfl) (fun (v104, v105) => { env := [(0, (.d (.int .i64 x1))), (1, (.d (.int .i64 x2))), (3, (.ptr 2 0)), (4, (.ptr 6 0)), (5, (.ptr 4 0)), (6, (.ptr 3 0)), (24, (.d (.int .i64 v104)))], heap := [(.arr 1 x3), (.arr 1 x4), (.cells [(.ptr 0 0)]), (.cells [(.ptr 1 0)]), (.arr 1 x5), (.arr 1 v105), (.cells [(.func 94 [] [(.ptr 5 0), (.ptr 2 0), (.ptr 6 0), (.ptr 4 0), (.ptr 3 0)])])], n := 59 }) ⟨rfl, (by first | (cbv; done) | ((repeat (cbv; simp only [c16])); first | done | cbv))⟩ ?_
      rintro ⟨v104, v105⟩ eK179 hsK179
      dsimp only [R94L1] at hsK179
      refine AWp.seq ?_
      refine AWp.rg hT hA {} (by cbv) (lb rfl) ?_
      refine nT ?_
      refine AWp.seq ?_
      rcases tf (A.zlt v104 4) with c106 | c106
      · replace hsK179 := cT c106 hsK179
        refine AWp.cdT rfl (by first | rfl | simp only [c106, Bool.not_true, Bool.not_false, cond_true, cond_false]) ?_
        refine AWp.skip ?_
        refine nT ?_
        refine AWp.seq ?_
        refine AWp.block ?_
        refine AWp.seq ?_
        refine AWp.rg hT hA {} (by (repeat (cbv; simp only [c106])); first | done | cbv) (lb rfl) ?_
        refine nT ?_
        refine AWp.seq ?_
        refine AWp.region ?_
        obtain ⟨_, e107, hsK179⟩ := bindS hsK179
        have f109 := ckI e107
        obtain ⟨_, e108, hsK179⟩ := bindS hsK179
        have f110 := ckI e108
        obtain ⟨_, e111, hsK179⟩ := bindS hsK179
        have f113 := ckI e111
        obtain ⟨_, e112, hsK179⟩ := bindS hsK179
        have f114 := ckI e112
        obtain ⟨a115, e116, hsK179⟩ := bindS hsK179
        have f117 := gcI e116
        obtain ⟨r119, e118, hsK179⟩ := bindS hsK179
        refine AOps.cc hT hA {} (by (repeat (cbv; simp only [c106, f109, f110, f113, f114, f117])); first | done | cbv) (lb rfl) (R76w hA e118) rfl (.inr rfl) rfl rfl rfl (lb rfl) rfl rfl ?_
        refine AOps.cd hT hA {} (by (repeat (cbv; simp only [c106, f109, f110, f113, f114, f117])); first | done | cbv) (lb rfl) ?_
        refine nT ?_
        refine AWp.block ?_
        obtain ⟨xK177, hxK177, K177, hK177, hkK177⟩ := bindK hsK179
        refine AWp.cutX 2 [0, 1, 3, 4, 5, 6, 24] [] 7 (lb rfl) (fun τ => ∃ v176, K177 v176 = some eK179 ∧ τ = { env := [(0, (.d (.int .i64 x1))), (1, (.d (.int .i64 x2))), (3, (.ptr 2 0)), (4, (.ptr 6 0)), (5, (.ptr 4 0)), (6, (.ptr 3 0)), (24, (.d (.int .i64 v104)))], heap := [(.arr 1 x3), (.arr 1 x4), (.cells [(.ptr 0 0)]), (.cells [(.ptr 1 0)]), (.arr 1 x5), (.arr 1 v176), (.cells [(.func 94 [] [(.ptr 5 0), (.ptr 2 0), (.ptr 6 0), (.ptr 4 0), (.ptr 3 0)])])], n := 59 }) ?_ ?_
        · skip
          refine AWp.iter hxK177 [0, 1, 3, 4, 5, 6, 9, 24, 35, 36, 37] [] 7 (lb rfl) (fun (v147, v148) => { env := [(0, (.d (.int .i64 x1))), (1, (.d (.int .i64 x2))), (3, (.ptr 2 0)), (4, (.ptr 6 0)), (5, (.ptr 4 0)), (6, (.ptr 3 0)), (9, (.d (.int .i64 v104))), (24, (.d (.int .i64 v104))), (35, (.own 1 r119)), (36, (.d (.int .i64 (A.len r119)))), (37, (.d (.int .i64 v147)))], heap := [(.arr 1 x3), (.arr 1 x4), (.cells [(.ptr 0 0)]), (.cells [(.ptr 1 0)]), (.arr 1 x5), (.arr 1 v148), (.cells [(.func 94 [] [(.ptr 5 0), (.ptr 2 0), (.ptr 6 0), (.ptr 4 0), (.ptr 3 0)])])], n := 59 }) ⟨rfl, (by first | (cbv; done) | ((repeat (cbv; simp only [c106])); first | done | cbv))⟩ ?_
          rintro ⟨v147, v148⟩ eK177 hsK177
          dsimp only [R94L0] at hsK177
          refine AWp.seq ?_
          refine AWp.rg hT hA {} (by cbv) (lb rfl) ?_
          refine nT ?_
          refine AWp.seq ?_
          rcases tf (A.zlt v147 (A.len r119)) with c149 | c149
          · replace hsK177 := cT c149 hsK177
            refine AWp.cdT rfl (by first | rfl | simp only [c149, Bool.not_true, Bool.not_false, cond_true, cond_false]) ?_
            refine AWp.skip ?_
            refine nT ?_
            refine AWp.seq ?_
            refine AWp.block ?_
            refine AWp.seq ?_
            obtain ⟨a150, e151, hsK177⟩ := bindS hsK177
            obtain ⟨f152, f153⟩ := gtI e151
            refine AWp.rg hT hA {} (by (repeat (cbv; simp only [c149, f152, f153])); first | done | cbv) (lb rfl) ?_
            refine nT ?_
            refine AWp.regionDraw rfl (lb rfl) ?_
            obtain ⟨_, e154, hsK177⟩ := bindS hsK177
            have f156 := ckI e154
            obtain ⟨_, e155, hsK177⟩ := bindS hsK177
            have f157 := ckI e155
            obtain ⟨a158, e159, hsK177⟩ := bindS hsK177
            have f160 := gcI e159
            obtain ⟨_, e161, hsK177⟩ := bindS hsK177
            have f163 := ckI e161
            obtain ⟨_, e162, hsK177⟩ := bindS hsK177
            have f164 := ckI e162
            obtain ⟨_, e165, hsK177⟩ := bindS hsK177
            have f167 := ckI e165
            obtain ⟨_, e166, hsK177⟩ := bindS hsK177
            have f168 := ckI e166
            obtain ⟨a169, e170, hsK177⟩ := bindS hsK177
            have f171 := gcI e170
            obtain ⟨r173, e172, hsK177⟩ := bindS hsK177
            refine DOps.c0 hT hA {} rfl (by (repeat (cbv; simp only [c149, f156, f157, f160, f163, f164, f167, f168, f171])); first | done | cbv) (R95w hA e172) rfl rfl (lb rfl) rfl rfl ?_
            obtain ⟨r175, e174, hsK177⟩ := bindS hsK177
            refine DOps.cl hT hA {} rfl (by (repeat (cbv; simp only [c149, f156, f157, f160, f163, f164, f167, f168, f171])); first | done | cbv) (ih98 e174) rfl rfl rfl rfl rfl (lb rfl) rfl rfl ?_
            refine DOps.cd hT hA {} rfl (by (repeat (cbv; simp only [c149, f156, f157, f160, f163, f164, f167, f168, f171])); first | done | cbv) (by kernel_rfl) ?_
            refine nB ?_
            refine nT ?_
            refine AWp.rg hT hA {} (by (repeat (cbv; simp only [c149])); first | done | cbv) (lb rfl) ?_
            exact nT ⟨_, (soI hsK177).symm, rfl, (by first | (cbv; done) | ((repeat (cbv; simp only [c149])); first | done | cbv))⟩
          · replace hsK177 := cF c149 hsK177
            refine AWp.cdF rfl (by first | rfl | simp only [c149, Bool.not_true, Bool.not_false, cond_true, cond_false]) ?_
            refine AWp.exit ?_
            refine xT ?_
            refine xT ?_
            refine exL hsK177 fun hx => ?_
            subst hx
            exact oxI ⟨rfl, _, hkK177, (by first | (cbv; done) | ((repeat (cbv; simp only [c149])); first | done | cbv))⟩
        · rintro _ ⟨v176, hkK177, rfl⟩
          have hsK179 := (hK177 _ hkK177)
          refine xB ?_
          refine nB ?_
          refine nT ?_
          refine AWp.rg hT hA {} (by cbv) (lb rfl) ?_
          exact nT ⟨_, (soI hsK179).symm, rfl, (by cbv)⟩
      · replace hsK179 := cF c106 hsK179
        refine AWp.cdF rfl (by first | rfl | simp only [c106, Bool.not_true, Bool.not_false, cond_true, cond_false]) ?_
        refine AWp.exit ?_
        refine xT ?_
        refine xT ?_
        refine exL hsK179 fun hx => ?_
        subst hx
        exact oxI ⟨rfl, _, hkK179, (by first | (cbv; done) | ((repeat (cbv; simp only [c106])); first | done | cbv))⟩
    · rintro _ ⟨v178, hkK179, rfl⟩
      have h := (hK179 _ hkK179)
      refine xB ?_
      cases soI h
      exact ⟨rfl, rfl, rfl, lb rfl, _, rfl⟩

theorem R94Rw {A : Ar} (hA : A = Ar.std) : ∀ (n : Nat) {x1 : Int} {x2 : Int} {x3 : List D} {x4 : List D} {x5 : List D} {x6 : List D} {v180 : List D}, R94R A n x1 x2 x3 x4 x5 x6 = some v180 → ACall Try.prog 94 [(.d (.int .i64 x1)), (.d (.int .i64 x2)), (.ptr 5 0), (.ptr 2 0), (.ptr 6 0), (.ptr 4 0), (.ptr 3 0)] [(.arr 1 x3), (.arr 1 x4), (.cells [(.ptr 0 0)]), (.cells [(.ptr 1 0)]), (.arr 1 x5), (.arr 1 x6), (.cells [(.func 94 [] [(.ptr 5 0), (.ptr 2 0), (.ptr 6 0), (.ptr 4 0), (.ptr 3 0)])])] (.tuple []) [(.arr 1 x3), (.arr 1 x4), (.cells [(.ptr 0 0)]), (.cells [(.ptr 1 0)]), (.arr 1 x5), (.arr 1 v180), (.cells [(.func 94 [] [(.ptr 5 0), (.ptr 2 0), (.ptr 6 0), (.ptr 4 0), (.ptr 3 0)])])]
  | 0, _, _, _, _, _, _, _, h => by cases h
  | n + 1, _, _, _, _, _, _, _, h => R94Bw hA (fun h => R94Rw hA n h) h

theorem R94w {A : Ar} (hA : A = Ar.std) {x1 : Int} {x2 : Int} {x3 : List D} {x4 : List D} {x5 : List D} {x6 : List D} {v180 : List D} (h : R94 A x1 x2 x3 x4 x5 x6 = some v180) : ACall Try.prog 94 [(.d (.int .i64 x1)), (.d (.int .i64 x2)), (.ptr 5 0), (.ptr 2 0), (.ptr 6 0), (.ptr 4 0), (.ptr 3 0)] [(.arr 1 x3), (.arr 1 x4), (.cells [(.ptr 0 0)]), (.cells [(.ptr 1 0)]), (.arr 1 x5), (.arr 1 x6), (.cells [(.func 94 [] [(.ptr 5 0), (.ptr 2 0), (.ptr 6 0), (.ptr 4 0), (.ptr 3 0)])])] (.tuple []) [(.arr 1 x3), (.arr 1 x4), (.cells [(.ptr 0 0)]), (.cells [(.ptr 1 0)]), (.arr 1 x5), (.arr 1 v180), (.cells [(.func 94 [] [(.ptr 5 0), (.ptr 2 0), (.ptr 6 0), (.ptr 4 0), (.ptr 3 0)])])] := R94Rw hA fuel h

theorem R46w {A : Ar} (hA : A = Ar.std) {x1 : Int} {x2 : List D} {x3 : Int} {x4 : List D} {v34 : List D} {v35 : Int} (h : R46 A x1 x2 x3 x4 = some (v34, v35)) : ACall Try.prog 46 [(.d (.agg [(.int .i64 x1), (.list 3 x2)])), (.d (.agg [(.int .i64 x3), (.list 3 x4)]))] [] (.tuple [(.d (.list 2 v34)), (.d (.int .i64 v35))]) [] := by
  unfold R46 at h
  refine ACall.enter hT (fn := Try.f46) Try.func46 rfl (by decide) (by simp [Try.f46]) rfl rfl rfl rfl (lb rfl) ?_
  refine AWp.seq ?_
  refine AWp.rg hT hA {} (by cbv) (lb rfl) ?_
  refine nT ?_
  refine AWp.seq ?_
  refine AWp.region ?_
  obtain ⟨q9, e5, h⟩ := bindS h
  rcases q9 with ⟨r6, r7⟩ | r8 | _
  · replace h := (eL h)
    refine AOps.cc hT hA { tk := [16, 17], esc := [6, 7] } (by cbv) (lb rfl) (R70wa hA e5) rfl (.inl rfl) rfl rfl rfl (lb rfl) rfl rfl ?_
    refine AOps.cd hT hA { tk := [16, 17], esc := [6, 7] } (by cbv) (lb rfl) ?_
    refine nT ?_
    refine AWp.seq ?_
    refine AWp.seq ?_
    have f10 := zeqF hA (a := 0) (b := 0) (c := true) rfl
    refine AWp.rg hT hA {} (by (repeat (cbv; simp only [f10])); first | done | cbv) (lb rfl) ?_
    refine nT ?_
    refine AWp.cdF rfl (by first | rfl | simp only [f10, Bool.not_true, Bool.not_false, cond_true, cond_false]) ?_
    refine AWp.skip ?_
    refine nT ?_
    refine AWp.seq ?_
    refine AWp.region ?_
    obtain ⟨r12, e11, h⟩ := bindS h
    refine AOps.cc hT hA { tk := [24], arr := [9] } (by (repeat (cbv; simp only [f10])); first | done | cbv) (lb rfl) (R90w hA e11) rfl (.inr rfl) rfl rfl rfl (lb rfl) rfl rfl ?_
    obtain ⟨_, e16, h⟩ := bindS h
    have f15 := ckI e16
    obtain ⟨_, e13, h⟩ := bindS h
    have f14 := ckI e13
    refine AOps.cd hT hA { tk := [24], arr := [9] } (by (repeat (cbv; simp only [f10, f14, f15])); first | done | cbv) (lb rfl) ?_
    refine nT ?_
    refine AWp.seq ?_
    refine AWp.seq ?_
    refine AWp.region ?_
    obtain ⟨a17, e18, h⟩ := bindS h
    have f19 := gcI e18
    obtain ⟨r21, e20, h⟩ := bindS h
    refine AOps.cc hT hA {} (by (repeat (cbv; simp only [f10, f19])); first | done | cbv) (lb rfl) (R91w hA e20) rfl (.inr rfl) rfl rfl rfl (lb rfl) rfl rfl ?_
    refine AOps.cd hT hA {} (by (repeat (cbv; simp only [f10, f19])); first | done | cbv) (lb rfl) ?_
    refine nT ?_
    rcases tf r21 with c22 | c22
    · replace h := cT c22 h
      refine AWp.cdF rfl (by first | rfl | simp only [f10, c22, Bool.not_true, Bool.not_false, cond_true, cond_false]) ?_
      refine AWp.skip ?_
      refine nT ?_
      refine AWp.seq ?_
      refine AWp.rg hT hA { arr := [10] } (by (repeat (cbv; simp only [f10, c22])); first | done | cbv) (lb rfl) ?_
      refine nT ?_
      refine AWp.seq ?_
      refine AWp.rg hT hA { esc := [11] } (by (repeat (cbv; simp only [f10, c22])); first | done | cbv) (lb rfl) ?_
      refine nT ?_
      refine AWp.seq ?_
      refine AWp.rg hT hA { tk := [29] } (by (repeat (cbv; simp only [f10, c22])); first | done | cbv) (lb rfl) ?_
      refine nT ?_
      refine AWp.seq ?_
      refine AWp.region ?_
      obtain ⟨r24, e23, h⟩ := bindS h
      refine AOps.cc hT hA {} (by (repeat (cbv; simp only [f10, c22])); first | done | cbv) (lb rfl) (R94w hA e23) rfl (.inl rfl) rfl rfl rfl (lb rfl) rfl rfl ?_
      refine AOps.cd hT hA {} (by (repeat (cbv; simp only [f10, c22])); first | done | cbv) (lb rfl) ?_
      refine nT ?_
      refine AWp.seq ?_
      refine AWp.region ?_
      obtain ⟨l29, e25, h⟩ := bindS h
      obtain ⟨f26, f27, f28⟩ := gaI e25
      obtain ⟨r31, e30, h⟩ := bindS h
      refine AOps.cc hT hA {} (by (repeat (cbv; simp only [f10, c22, f26, f27, f28, f26, f27, f28])); first | done | cbv) (lb rfl) (R86w hA e30) rfl (.inr rfl) rfl rfl rfl (lb rfl) rfl rfl ?_
      refine AOps.cd hT hA {} (by (repeat (cbv; simp only [f10, c22, f26, f27, f28, f26, f27, f28])); first | done | cbv) (lb rfl) ?_
      refine nT ?_
      refine AWp.ret ?_
      cases soI h
      exact ⟨rfl, rfl, rfl, lb rfl, _, rfl⟩
    · replace h := cF c22 h
      refine AWp.cdT rfl (by first | rfl | simp only [f10, c22, Bool.not_true, Bool.not_false, cond_true, cond_false]) ?_
      refine AWp.seq ?_
      refine AWp.rg hT hA {} (by (repeat (cbv; simp only [f10, c22])); first | done | cbv) (lb rfl) ?_
      refine nT ?_
      refine AWp.ret ?_
      refine rT ?_
      cases soI h
      exact ⟨rfl, rfl, rfl, lb rfl, _, rfl⟩
  · replace h := (eL (eR h))
    refine AOps.cc hT hA { tk := [16, 17], esc := [6, 7] } (by cbv) (lb rfl) (R70wb hA e5) rfl (.inl rfl) rfl rfl rfl (lb rfl) rfl rfl ?_
    refine AOps.cd hT hA { tk := [16, 17], esc := [6, 7] } (by cbv) (lb rfl) ?_
    refine nT ?_
    refine AWp.seq ?_
    refine AWp.seq ?_
    have f32 := zeqF hA (a := 50) (b := 0) (c := false) rfl
    refine AWp.rg hT hA {} (by (repeat (cbv; simp only [f32])); first | done | cbv) (lb rfl) ?_
    refine nT ?_
    refine AWp.cdT rfl (by first | rfl | simp only [f32, Bool.not_true, Bool.not_false, cond_true, cond_false]) ?_
    refine AWp.seq ?_
    refine AWp.rg hT hA {} (by (repeat (cbv; simp only [f32])); first | done | cbv) (lb rfl) ?_
    refine nT ?_
    refine AWp.ret ?_
    refine rT ?_
    cases soI h
    exact ⟨rfl, rfl, rfl, lb rfl, _, rfl⟩
  · replace h := (eR (eR h))
    refine AOps.cc hT hA { tk := [16, 17], esc := [6, 7] } (by cbv) (lb rfl) (R70wc hA e5) rfl (.inl rfl) rfl rfl rfl (lb rfl) rfl rfl ?_
    refine AOps.cd hT hA { tk := [16, 17], esc := [6, 7] } (by cbv) (lb rfl) ?_
    refine nT ?_
    refine AWp.seq ?_
    refine AWp.seq ?_
    have f33 := zeqF hA (a := 50) (b := 0) (c := false) rfl
    refine AWp.rg hT hA {} (by (repeat (cbv; simp only [f33])); first | done | cbv) (lb rfl) ?_
    refine nT ?_
    refine AWp.cdT rfl (by first | rfl | simp only [f33, Bool.not_true, Bool.not_false, cond_true, cond_false]) ?_
    refine AWp.seq ?_
    refine AWp.rg hT hA {} (by (repeat (cbv; simp only [f33])); first | done | cbv) (lb rfl) ?_
    refine nT ?_
    refine AWp.ret ?_
    refine rT ?_
    cases soI h
    exact ⟨rfl, rfl, rfl, lb rfl, _, rfl⟩

theorem R51w {A : Ar} (hA : A = Ar.std) {x1 : Int} {x2 : List D} {x3 : Int} {x4 : List D} {v782 : List D} {v783 : Int} (h : R51 A x1 x2 x3 x4 = some (v782, v783)) : ACall Try.prog 51 [(.d (.agg [(.int .i64 x1), (.list 3 x2)])), (.d (.agg [(.int .i64 x3), (.list 3 x4)]))] [] (.tuple [(.d (.list 2 v782)), (.d (.int .i64 v783))]) [] := by
  unfold R51 at h
  refine ACall.enter hT (fn := Try.f51) Try.func51 rfl (by decide) (by simp [Try.f51]) rfl rfl rfl rfl (lb rfl) ?_
  refine AWp.seq ?_
  refine AWp.rg hT hA {} (by cbv) (lb rfl) ?_
  refine nT ?_
  refine AWp.seq ?_
  refine AWp.seq ?_
  obtain ⟨v10, hvK11, h⟩ := bindS h
  refine AWp.cutN [2, 3, 20] [] 0 (lb rfl) (fun τ => τ = { env := [(2, (.lbox [(.d (.int .i64 x1)), (.d (.list 3 x2))])), (3, (.lbox [(.d (.int .i64 x3)), (.d (.list 3 x4))])), (20, (.d (.bool v10)))], heap := [], n := 96 }) ?_ ?_
  · skip
    refine AWp.region ?_
    obtain ⟨r6, e5, hvK11⟩ := bindS hvK11
    refine AOps.cc hT hA {} (by cbv) (lb rfl) (R34w hA e5) rfl (.inl rfl) rfl rfl rfl (lb rfl) rfl rfl ?_
    rcases tf r6 with c7 | c7
    · replace hvK11 := cT c7 hvK11
      obtain ⟨r9, e8, hvK11⟩ := bindS hvK11
      refine AOps.cc hT hA {} (by (repeat (cbv; simp only [c7])); first | done | cbv) (lb rfl) (R34w hA e8) rfl (.inl rfl) rfl rfl rfl (lb rfl) rfl rfl ?_
      refine AOps.cd hT hA {} (by (repeat (cbv; simp only [c7])); first | done | cbv) (lb rfl) ?_
      cases soI hvK11
      exact oNi ⟨rfl, (by first | (cbv; done) | ((repeat (cbv; simp only [c7])); first | done | cbv))⟩
    · replace hvK11 := cF c7 hvK11
      refine AOps.cd hT hA {} (by (repeat (cbv; simp only [c7])); first | done | cbv) (lb rfl) ?_
      cases soI hvK11
      exact oNi ⟨rfl, (by first | (cbv; done) | ((repeat (cbv; simp only [c7])); first | done | cbv))⟩
  · rintro _ rfl
    refine nT ?_
    rcases tf v10 with c12 | c12
    · replace h := cT c12 h
      refine AWp.cdT rfl (by first | rfl | simp only [c12, Bool.not_true, Bool.not_false, cond_true, cond_false]) ?_
      refine AWp.seq ?_
      refine AWp.rg hT hA {} (by (repeat (cbv; simp only [c12])); first | done | cbv) (lb rfl) ?_
      refine nT ?_
      refine AWp.ret ?_
      refine rT ?_
      cases soI h
      exact ⟨rfl, rfl, rfl, lb rfl, _, rfl⟩
    · replace h := cF c12 h
      refine AWp.cdF rfl (by first | rfl | simp only [c12, Bool.not_true, Bool.not_false, cond_true, cond_false]) ?_
      refine AWp.skip ?_
      refine nT ?_
      refine AWp.seq ?_
      refine AWp.region ?_
      obtain ⟨r14, e13, h⟩ := bindS h
      refine AOps.cc hT hA {} (by (repeat (cbv; simp only [c12])); first | done | cbv) (lb rfl) (R100w hA e13) rfl (.inl rfl) rfl rfl rfl (lb rfl) rfl rfl ?_
      refine AOps.cd hT hA {} (by (repeat (cbv; simp only [c12])); first | done | cbv) (lb rfl) ?_
      refine nT ?_
      refine AWp.seq ?_
      refine AWp.seq ?_
      obtain ⟨a15, e16, h⟩ := bindS h
      have f17 := gcI e16
      refine AWp.rg hT hA {} (by (repeat (cbv; simp only [c12, f17])); first | done | cbv) (lb rfl) ?_
      refine nT ?_
      rcases tf (A.zeq (A.bits .and .i64 a15 1) 0) with c18 | c18
      · replace h := cT c18 h
        refine AWp.cdT rfl (by first | rfl | simp only [c12, c18, Bool.not_true, Bool.not_false, cond_true, cond_false]) ?_
        refine AWp.seq ?_
        refine AWp.rg hT hA {} (by (repeat (cbv; simp only [c12, c18])); first | done | cbv) (lb rfl) ?_
        refine nT ?_
        refine AWp.ret ?_
        refine rT ?_
        cases soI h
        exact ⟨rfl, rfl, rfl, lb rfl, _, rfl⟩
      · replace h := cF c18 h
        refine AWp.cdF rfl (by first | rfl | simp only [c12, c18, Bool.not_true, Bool.not_false, cond_true, cond_false]) ?_
        refine AWp.skip ?_
        refine nT ?_
        refine AWp.seq ?_
        obtain ⟨_, e22, h⟩ := bindS h
        have f19 := ckI e22
        obtain ⟨_, e23, h⟩ := bindS h
        have f20 := ckI e23
        obtain ⟨_, e24, h⟩ := bindS h
        have f21 := ckI e24
        refine AWp.rg hT hA {} (by (repeat (cbv; simp only [c12, c18, f19, f20, f21])); first | done | cbv) (lb rfl) ?_
        refine nT ?_
        refine AWp.seq ?_
        obtain ⟨_, e27, h⟩ := bindS h
        have f25 := zleF hA (a := 0) (b := 0) (c := true) rfl
        have f26 := ckI e27
        obtain ⟨d28, e29, h⟩ := bindS h
        refine AWp.rg hT hA {} (by (repeat (cbv; simp only [c12, c18, f25, f26, e29])); first | done | cbv) (lb rfl) ?_
        refine nT ?_
        refine AWp.seq ?_
        refine AWp.seq ?_
        refine AWp.rg hT hA {} (by (repeat (cbv; simp only [c12, c18])); first | done | cbv) (lb rfl) ?_
        refine nT ?_
        refine AWp.block ?_
        obtain ⟨xK779, hxK779, K779, hK779, hkK779⟩ := bindK h
        refine AWp.cutX 0 [7] [] 1 (lb rfl) (fun τ => ∃ v778, K779 v778 = some (v782, v783) ∧ τ = { env := [(7, (.mref 0 1 0 x1))], heap := [(.arr 1 v778)], n := 96 }) ?_ ?_
        · skip
          refine AWp.iter hxK779 [2, 3, 6, 7, 38, 39] [] 1 (lb rfl) (fun (v403, v404) => { env := [(2, (.lbox [(.d (.int .i64 x1)), (.d (.list 3 x2))])), (3, (.lbox [(.d (.int .i64 x3)), (.d (.list 3 x4))])), (6, (.d (.list 1 r14))), (7, (.mref 0 1 0 x1)), (38, (.d (.int .i64 (A.wrp .i64 (A.zmul x1 x3))))), (39, (.d (.int .i64 v403)))], heap := [(.arr 1 v404)], n := 96 }) ⟨rfl, (by first | (cbv; done) | ((repeat (cbv; simp only [c12, c18])); first | done | cbv))⟩ ?_
          rintro ⟨v403, v404⟩ eK779 hsK779
          dsimp only [R51L3] at hsK779
          refine AWp.seq ?_
          refine AWp.rg hT hA {} (by cbv) (lb rfl) ?_
          refine nT ?_
          refine AWp.seq ?_
          rcases tf (A.zlt v403 (A.wrp .i64 (A.zmul x1 x3))) with c405 | c405
          · replace hsK779 := cT c405 hsK779
            refine AWp.cdT rfl (by first | rfl | simp only [c405, Bool.not_true, Bool.not_false, cond_true, cond_false]) ?_
            refine AWp.skip ?_
            refine nT ?_
            refine AWp.seq ?_
            refine AWp.block ?_
            refine AWp.seq ?_
            refine AWp.rg hT hA {} (by (repeat (cbv; simp only [c405])); first | done | cbv) (lb rfl) ?_
            refine nT ?_
            refine AWp.block ?_
            obtain ⟨xK777, hxK777, K777, hK777, hkK777⟩ := bindK hsK779
            refine AWp.cutX 2 [2, 3, 6, 7, 38, 39] [] 1 (lb rfl) (fun τ => ∃ v776, K777 v776 = some eK779 ∧ τ = { env := [(2, (.lbox [(.d (.int .i64 x1)), (.d (.list 3 x2))])), (3, (.lbox [(.d (.int .i64 x3)), (.d (.list 3 x4))])), (6, (.d (.list 1 r14))), (7, (.mref 0 1 0 x1)), (38, (.d (.int .i64 (A.wrp .i64 (A.zmul x1 x3))))), (39, (.d (.int .i64 v403)))], heap := [(.arr 1 v776)], n := 96 }) ?_ ?_
            · skip
              refine AWp.iter hxK777 [2, 3, 6, 7, 38, 39, 42, 43] [] 1 (lb rfl) (fun (v590, v591) => { env := [(2, (.lbox [(.d (.int .i64 x1)), (.d (.list 3 x2))])), (3, (.lbox [(.d (.int .i64 x3)), (.d (.list 3 x4))])), (6, (.d (.list 1 r14))), (7, (.mref 0 1 0 x1)), (38, (.d (.int .i64 (A.wrp .i64 (A.zmul x1 x3))))), (39, (.d (.int .i64 v403))), (42, (.d (.int .i64 x1))), (43, (.d (.int .i64 v590)))], heap := [(.arr 1 v591)], n := 96 }) ⟨rfl, (by first | (cbv; done) | ((repeat (cbv; simp only [c405])); first | done | cbv))⟩ ?_
              rintro ⟨v590, v591⟩ eK777 hsK777
              dsimp only [R51L2] at hsK777
              refine AWp.seq ?_
              refine AWp.rg hT hA {} (by cbv) (lb rfl) ?_
              refine nT ?_
              refine AWp.seq ?_
              rcases tf (A.zlt v590 x1) with c592 | c592
              · replace hsK777 := cT c592 hsK777
                refine AWp.cdT rfl (by first | rfl | simp only [c592, Bool.not_true, Bool.not_false, cond_true, cond_false]) ?_
                refine AWp.skip ?_
                refine nT ?_
                refine AWp.seq ?_
                refine AWp.block ?_
                refine AWp.seq ?_
                refine AWp.rg hT hA {} (by (repeat (cbv; simp only [c592])); first | done | cbv) (lb rfl) ?_
                refine nT ?_
                refine AWp.seq ?_
                refine AWp.region ?_
                obtain ⟨_, e593, hsK777⟩ := bindS hsK777
                have f595 := ckI e593
                obtain ⟨_, e594, hsK777⟩ := bindS hsK777
                have f596 := ckI e594
                obtain ⟨a597, e598, hsK777⟩ := bindS hsK777
                have f599 := gcI e598
                obtain ⟨r601, e600, hsK777⟩ := bindS hsK777
                refine AOps.cc hT hA {} (by (repeat (cbv; simp only [c592, f595, f596, f599])); first | done | cbv) (lb rfl) (R78w hA e600) rfl (.inr rfl) rfl rfl rfl (lb rfl) rfl rfl ?_
                refine AOps.cd hT hA {} (by (repeat (cbv; simp only [c592, f595, f596, f599])); first | done | cbv) (lb rfl) ?_
                refine nT ?_
                refine AWp.block ?_
                obtain ⟨xK775, hxK775, K775, hK775, hkK775⟩ := bindK hsK777
                refine AWp.cutX 4 [2, 3, 6, 7, 38, 39, 42, 43] [] 1 (lb rfl) (fun τ => ∃ v774, K775 v774 = some eK777 ∧ τ = { env := [(2, (.lbox [(.d (.int .i64 x1)), (.d (.list 3 x2))])), (3, (.lbox [(.d (.int .i64 x3)), (.d (.list 3 x4))])), (6, (.d (.list 1 r14))), (7, (.mref 0 1 0 x1)), (38, (.d (.int .i64 (A.wrp .i64 (A.zmul x1 x3))))), (39, (.d (.int .i64 v403))), (42, (.d (.int .i64 x1))), (43, (.d (.int .i64 v590)))], heap := [(.arr 1 v774)], n := 96 }) ?_ ?_
                · skip
                  refine AWp.iter hxK775 [2, 3, 6, 7, 8, 38, 39, 42, 43, 50, 51, 52] [] 1 (lb rfl) (fun (v687, v688) => { env := [(2, (.lbox [(.d (.int .i64 x1)), (.d (.list 3 x2))])), (3, (.lbox [(.d (.int .i64 x3)), (.d (.list 3 x4))])), (6, (.d (.list 1 r14))), (7, (.mref 0 1 0 x1)), (8, (.d (.int .i64 v590))), (38, (.d (.int .i64 (A.wrp .i64 (A.zmul x1 x3))))), (39, (.d (.int .i64 v403))), (42, (.d (.int .i64 x1))), (43, (.d (.int .i64 v590))), (50, (.own 1 r601)), (51, (.d (.int .i64 (A.len r601)))), (52, (.d (.int .i64 v687)))], heap := [(.arr 1 v688)], n := 96 }) ⟨rfl, (by first | (cbv; done) | ((repeat (cbv; simp only [c592])); first | done | cbv))⟩ ?_
                  rintro ⟨v687, v688⟩ eK775 hsK775
                  dsimp only [R51L1] at hsK775
                  refine AWp.seq ?_
                  refine AWp.rg hT hA {} (by cbv) (lb rfl) ?_
                  refine nT ?_
                  refine AWp.seq ?_
                  rcases tf (A.zlt v687 (A.len r601)) with c689 | c689
                  · replace hsK775 := cT c689 hsK775
                    refine AWp.cdT rfl (by first | rfl | simp only [c689, Bool.not_true, Bool.not_false, cond_true, cond_false]) ?_
                    refine AWp.skip ?_
                    refine nT ?_
                    refine AWp.seq ?_
                    refine AWp.block ?_
                    refine AWp.seq ?_
                    obtain ⟨a690, e691, hsK775⟩ := bindS hsK775
                    obtain ⟨f692, f693⟩ := gtI e691
                    refine AWp.rg hT hA {} (by (repeat (cbv; simp only [c689, f692, f693])); first | done | cbv) (lb rfl) ?_
                    refine nT ?_
                    refine AWp.seq ?_
                    refine AWp.rg hT hA {} (by (repeat (cbv; simp only [c689])); first | done | cbv) (lb rfl) ?_
                    refine nT ?_
                    refine AWp.block ?_
                    obtain ⟨xK773, hxK773, K773, hK773, hkK773⟩ := bindK hsK775
                    refine AWp.cutX 6 [2, 3, 6, 7, 8, 38, 39, 42, 43, 50, 51, 52] [] 1 (lb rfl) (fun τ => ∃ v772, K773 v772 = some eK775 ∧ τ = { env := [(2, (.lbox [(.d (.int .i64 x1)), (.d (.list 3 x2))])), (3, (.lbox [(.d (.int .i64 x3)), (.d (.list 3 x4))])), (6, (.d (.list 1 r14))), (7, (.mref 0 1 0 x1)), (8, (.d (.int .i64 v590))), (38, (.d (.int .i64 (A.wrp .i64 (A.zmul x1 x3))))), (39, (.d (.int .i64 v403))), (42, (.d (.int .i64 x1))), (43, (.d (.int .i64 v590))), (50, (.own 1 r601)), (51, (.d (.int .i64 (A.len r601)))), (52, (.d (.int .i64 v687)))], heap := [(.arr 1 v772)], n := 96 }) ?_ ?_
                    · skip
                      refine AWp.iter hxK773 [2, 3, 6, 7, 8, 10, 38, 39, 42, 43, 50, 51, 52, 57, 58, 59] [] 1 (lb rfl) (fun (v732, v733) => { env := [(2, (.lbox [(.d (.int .i64 x1)), (.d (.list 3 x2))])), (3, (.lbox [(.d (.int .i64 x3)), (.d (.list 3 x4))])), (6, (.d (.list 1 r14))), (7, (.mref 0 1 0 x1)), (8, (.d (.int .i64 v590))), (10, (.d (.int .i64 a690))), (38, (.d (.int .i64 (A.wrp .i64 (A.zmul x1 x3))))), (39, (.d (.int .i64 v403))), (42, (.d (.int .i64 x1))), (43, (.d (.int .i64 v590))), (50, (.own 1 r601)), (51, (.d (.int .i64 (A.len r601)))), (52, (.d (.int .i64 v687))), (57, (.d (.list 3 x2))), (58, (.d (.int .i64 (A.len x2)))), (59, (.d (.int .i64 v732)))], heap := [(.arr 1 v733)], n := 96 }) ⟨rfl, (by first | (cbv; done) | ((repeat (cbv; simp only [c689])); first | done | cbv))⟩ ?_
                      rintro ⟨v732, v733⟩ eK773 hsK773
                      dsimp only [R51L0] at hsK773
                      refine AWp.seq ?_
                      refine AWp.rg hT hA {} (by cbv) (lb rfl) ?_
                      refine nT ?_
                      refine AWp.seq ?_
                      rcases tf (A.zlt v732 (A.len x2)) with c734 | c734
                      · replace hsK773 := cT c734 hsK773
                        refine AWp.cdT rfl (by first | rfl | simp only [c734, Bool.not_true, Bool.not_false, cond_true, cond_false]) ?_
                        refine AWp.skip ?_
                        refine nT ?_
                        refine AWp.seq ?_
                        refine AWp.block ?_
                        refine AWp.seq ?_
                        obtain ⟨⟨a735, a736, a737⟩, e738, hsK773⟩ := bindS hsK773
                        obtain ⟨f739, f740⟩ := gtI e738
                        refine AWp.rg hT hA { tk := [62] } (by (repeat (cbv; simp only [c734, f739, f740])); first | done | cbv) (lb rfl) ?_
                        refine nT ?_
                        refine AWp.seq ?_
                        refine AWp.rg hT hA {} (by (repeat (cbv; simp only [c734])); first | done | cbv) (lb rfl) ?_
                        refine nT ?_
                        obtain ⟨v770, hvK771, hsK773⟩ := bindS hsK773
                        refine AWp.cutN [2, 3, 6, 7, 8, 10, 38, 39, 42, 43, 50, 51, 52, 57, 58, 59] [] 1 (lb rfl) (fun τ => τ = { env := [(2, (.lbox [(.d (.int .i64 x1)), (.d (.list 3 x2))])), (3, (.lbox [(.d (.int .i64 x3)), (.d (.list 3 x4))])), (6, (.d (.list 1 r14))), (7, (.mref 0 1 0 x1)), (8, (.d (.int .i64 v590))), (10, (.d (.int .i64 a690))), (38, (.d (.int .i64 (A.wrp .i64 (A.zmul x1 x3))))), (39, (.d (.int .i64 v403))), (42, (.d (.int .i64 x1))), (43, (.d (.int .i64 v590))), (50, (.own 1 r601)), (51, (.d (.int .i64 (A.len r601)))), (52, (.d (.int .i64 v687))), (57, (.d (.list 3 x2))), (58, (.d (.int .i64 (A.len x2)))), (59, (.d (.int .i64 v732)))], heap := [(.arr 1 v770)], n := 96 }) ?_ ?_
                        · skip
                          rcases tf (A.zeq a735 v590) with c741 | c741
                          · replace hvK771 := cT c741 hvK771
                            refine AWp.cdT rfl (by first | rfl | simp only [c734, c741, Bool.not_true, Bool.not_false, cond_true, cond_false]) ?_
                            refine AWp.regionDraw rfl (lb rfl) ?_
                            obtain ⟨_, e742, hvK771⟩ := bindS hvK771
                            have f744 := ckI e742
                            obtain ⟨_, e743, hvK771⟩ := bindS hvK771
                            have f745 := ckI e743
                            obtain ⟨a746, e747, hvK771⟩ := bindS hvK771
                            have f748 := gcI e747
                            obtain ⟨_, e749, hvK771⟩ := bindS hvK771
                            have f750 := nkI e749
                            obtain ⟨r752, e751, hvK771⟩ := bindS hvK771
                            refine DOps.c0 hT hA { tk := [88] } rfl (by (repeat (cbv; simp only [c734, c741, f744, f745, f748, f750])); first | done | cbv) (R74w hA e751) rfl rfl (lb rfl) rfl rfl ?_
                            obtain ⟨a753, e754, hvK771⟩ := bindS hvK771
                            obtain ⟨f755, f756⟩ := gtI e754
                            obtain ⟨r758, e757, hvK771⟩ := bindS hvK771
                            refine DOps.c0 hT hA { tk := [88] } rfl (by (repeat (cbv; simp only [c734, c741, f744, f745, f748, f750, f755, f756])); first | done | cbv) (R78w hA e757) rfl rfl (lb rfl) rfl rfl ?_
                            obtain ⟨a759, e760, hvK771⟩ := bindS hvK771
                            have f761 := gcI e760
                            obtain ⟨_, e762, hvK771⟩ := bindS hvK771
                            have f763 := nkI e762
                            obtain ⟨_, e764, hvK771⟩ := bindS hvK771
                            have f766 := ckI e764
                            obtain ⟨_, e765, hvK771⟩ := bindS hvK771
                            have f767 := ckI e765
                            obtain ⟨d768, e769, hvK771⟩ := bindS hvK771
                            refine DOps.cd hT hA { tk := [88] } rfl (by (repeat (cbv; simp only [c734, c741, f744, f745, f748, f750, f755, f756, f761, f763, f766, f767, e769])); first | done | cbv) (by kernel_rfl) ?_
                            cases soI hvK771
                            exact oNi ⟨rfl, (by first | (cbv; done) | ((repeat (cbv; simp only [c734, c741])); first | done | cbv))⟩
                          · replace hvK771 := cF c741 hvK771
                            refine AWp.cdF rfl (by first | rfl | simp only [c734, c741, Bool.not_true, Bool.not_false, cond_true, cond_false]) ?_
                            refine AWp.skip ?_
                            cases soI hvK771
                            exact oNi ⟨rfl, (by first | (cbv; done) | ((repeat (cbv; simp only [c734, c741])); first | done | cbv))⟩
                        · rintro _ rfl
                          refine nB ?_
                          refine nT ?_
                          refine AWp.rg hT hA {} (by cbv) (lb rfl) ?_
                          exact nT ⟨_, (soI hsK773).symm, rfl, (by cbv)⟩
                      · replace hsK773 := cF c734 hsK773
                        refine AWp.cdF rfl (by first | rfl | simp only [c734, Bool.not_true, Bool.not_false, cond_true, cond_false]) ?_
                        refine AWp.exit ?_
                        refine xT ?_
                        refine xT ?_
                        refine exL hsK773 fun hx => ?_
                        subst hx
                        exact oxI ⟨rfl, _, hkK773, (by first | (cbv; done) | ((repeat (cbv; simp only [c734])); first | done | cbv))⟩
                    · rintro _ ⟨v772, hkK773, rfl⟩
                      have hsK775 := (hK773 _ hkK773)
                      refine xB ?_
                      refine nB ?_
                      refine nT ?_
                      refine AWp.rg hT hA {} (by cbv) (lb rfl) ?_
                      exact nT ⟨_, (soI hsK775).symm, rfl, (by cbv)⟩
                  · replace hsK775 := cF c689 hsK775
                    refine AWp.cdF rfl (by first | rfl | simp only [c689, Bool.not_true, Bool.not_false, cond_true, cond_false]) ?_
                    refine AWp.exit ?_
                    refine xT ?_
                    refine xT ?_
                    refine exL hsK775 fun hx => ?_
                    subst hx
                    exact oxI ⟨rfl, _, hkK775, (by first | (cbv; done) | ((repeat (cbv; simp only [c689])); first | done | cbv))⟩
                · rintro _ ⟨v774, hkK775, rfl⟩
                  have hsK777 := (hK775 _ hkK775)
                  refine xB ?_
                  refine nB ?_
                  refine nT ?_
                  refine AWp.rg hT hA {} (by cbv) (lb rfl) ?_
                  exact nT ⟨_, (soI hsK777).symm, rfl, (by cbv)⟩
              · replace hsK777 := cF c592 hsK777
                refine AWp.cdF rfl (by first | rfl | simp only [c592, Bool.not_true, Bool.not_false, cond_true, cond_false]) ?_
                refine AWp.exit ?_
                refine xT ?_
                refine xT ?_
                refine exL hsK777 fun hx => ?_
                subst hx
                exact oxI ⟨rfl, _, hkK777, (by first | (cbv; done) | ((repeat (cbv; simp only [c592])); first | done | cbv))⟩
            · rintro _ ⟨v776, hkK777, rfl⟩
              have hsK779 := (hK777 _ hkK777)
              refine xB ?_
              refine nB ?_
              refine nT ?_
              refine AWp.rg hT hA {} (by cbv) (lb rfl) ?_
              exact nT ⟨_, (soI hsK779).symm, rfl, (by cbv)⟩
          · replace hsK779 := cF c405 hsK779
            refine AWp.cdF rfl (by first | rfl | simp only [c405, Bool.not_true, Bool.not_false, cond_true, cond_false]) ?_
            refine AWp.exit ?_
            refine xT ?_
            refine xT ?_
            refine exL hsK779 fun hx => ?_
            subst hx
            exact oxI ⟨rfl, _, hkK779, (by first | (cbv; done) | ((repeat (cbv; simp only [c405])); first | done | cbv))⟩
        · rintro _ ⟨v778, hkK779, rfl⟩
          have h := (hK779 _ hkK779)
          refine xB ?_
          refine nT ?_
          refine AWp.seq ?_
          refine AWp.region ?_
          obtain ⟨r781, e780, h⟩ := bindS h
          refine AOps.cc hT hA {} (by cbv) (lb rfl) (R88w hA e780) rfl (.inl rfl) rfl rfl rfl (lb rfl) rfl rfl ?_
          refine AOps.cd hT hA {} (by cbv) (lb rfl) ?_
          refine nT ?_
          refine AWp.ret ?_
          cases soI h
          exact ⟨rfl, rfl, rfl, lb rfl, _, rfl⟩

theorem R48w {A : Ar} (hA : A = Ar.std) {x1 : Int} {x2 : List D} {x3 : Int} {x4 : List D} {x5 : List D} {v89 : Bool} {v90 : Int} (h : R48 A x1 x2 x3 x4 x5 = some (v89, v90)) : ACall Try.prog 48 [(.d (.agg [(.int .i64 x1), (.list 3 x2)])), (.d (.agg [(.int .i64 x3), (.list 3 x4)])), (.d (.list 2 x5))] [] (.tuple [(.d (.bool v89)), (.d (.int .i64 v90))]) [] := by
  unfold R48 at h
  refine ACall.enter hT (fn := Try.f48) Try.func48 rfl (by decide) (by simp [Try.f48]) rfl rfl rfl rfl (lb rfl) ?_
  refine AWp.seq ?_
  refine AWp.rg hT hA {} (by cbv) (lb rfl) ?_
  refine nT ?_
  refine AWp.seq ?_
  refine AWp.seq ?_
  obtain ⟨v11, hvK12, h⟩ := bindS h
  refine AWp.cutN [2, 3, 4, 20] [] 0 (lb rfl) (fun τ => τ = { env := [(2, (.d (.list 2 x5))), (3, (.lbox [(.d (.int .i64 x1)), (.d (.list 3 x2))])), (4, (.lbox [(.d (.int .i64 x3)), (.d (.list 3 x4))])), (20, (.d (.bool v11)))], heap := [], n := 64 }) ?_ ?_
  · skip
    refine AWp.region ?_
    obtain ⟨r7, e6, hvK12⟩ := bindS hvK12
    refine AOps.cc hT hA {} (by cbv) (lb rfl) (R34w hA e6) rfl (.inl rfl) rfl rfl rfl (lb rfl) rfl rfl ?_
    rcases tf r7 with c8 | c8
    · replace hvK12 := cT c8 hvK12
      obtain ⟨r10, e9, hvK12⟩ := bindS hvK12
      refine AOps.cc hT hA {} (by (repeat (cbv; simp only [c8])); first | done | cbv) (lb rfl) (R34w hA e9) rfl (.inl rfl) rfl rfl rfl (lb rfl) rfl rfl ?_
      refine AOps.cd hT hA {} (by (repeat (cbv; simp only [c8])); first | done | cbv) (lb rfl) ?_
      cases soI hvK12
      exact oNi ⟨rfl, (by first | (cbv; done) | ((repeat (cbv; simp only [c8])); first | done | cbv))⟩
    · replace hvK12 := cF c8 hvK12
      refine AOps.cd hT hA {} (by (repeat (cbv; simp only [c8])); first | done | cbv) (lb rfl) ?_
      cases soI hvK12
      exact oNi ⟨rfl, (by first | (cbv; done) | ((repeat (cbv; simp only [c8])); first | done | cbv))⟩
  · rintro _ rfl
    refine nT ?_
    rcases tf v11 with c13 | c13
    · replace h := cT c13 h
      refine AWp.cdT rfl (by first | rfl | simp only [c13, Bool.not_true, Bool.not_false, cond_true, cond_false]) ?_
      refine AWp.seq ?_
      refine AWp.rg hT hA {} (by (repeat (cbv; simp only [c13])); first | done | cbv) (lb rfl) ?_
      refine nT ?_
      refine AWp.ret ?_
      refine rT ?_
      cases soI h
      exact ⟨rfl, rfl, rfl, lb rfl, _, rfl⟩
    · replace h := cF c13 h
      refine AWp.cdF rfl (by first | rfl | simp only [c13, Bool.not_true, Bool.not_false, cond_true, cond_false]) ?_
      refine AWp.skip ?_
      refine nT ?_
      refine AWp.seq ?_
      refine AWp.seq ?_
      refine AWp.region ?_
      obtain ⟨r15, e14, h⟩ := bindS h
      refine AOps.cc hT hA {} (by (repeat (cbv; simp only [c13])); first | done | cbv) (lb rfl) (R87w hA e14) rfl (.inl rfl) rfl rfl rfl (lb rfl) rfl rfl ?_
      refine AOps.cd hT hA {} (by (repeat (cbv; simp only [c13])); first | done | cbv) (lb rfl) ?_
      refine nT ?_
      rcases tf r15 with c16 | c16
      · replace h := cT c16 h
        refine AWp.cdF rfl (by first | rfl | simp only [c13, c16, Bool.not_true, Bool.not_false, cond_true, cond_false]) ?_
        refine AWp.skip ?_
        refine nT ?_
        refine AWp.seq ?_
        obtain ⟨_, e20, h⟩ := bindS h
        have f17 := ckI e20
        obtain ⟨_, e21, h⟩ := bindS h
        have f18 := ckI e21
        obtain ⟨_, e22, h⟩ := bindS h
        have f19 := ckI e22
        refine AWp.rg hT hA {} (by (repeat (cbv; simp only [c13, c16, f17, f18, f19])); first | done | cbv) (lb rfl) ?_
        refine nT ?_
        refine AWp.seq ?_
        refine AWp.seq ?_
        refine AWp.rg hT hA {} (by (repeat (cbv; simp only [c13, c16])); first | done | cbv) (lb rfl) ?_
        refine nT ?_
        refine AWp.block ?_
        obtain ⟨xK68, hxK68, K68, hK68, hkK68⟩ := bindK h
        refine AWp.cutX 0 [2, 3, 4, 8] [] 1 (lb rfl) (fun τ => ∃ v67, K68 v67 = some (v89, v90) ∧ τ = { env := [(2, (.d (.list 2 x5))), (3, (.lbox [(.d (.int .i64 x1)), (.d (.list 3 x2))])), (4, (.lbox [(.d (.int .i64 x3)), (.d (.list 3 x4))])), (8, (.mref 0 1 0 x1))], heap := [(.arr 1 v67)], n := 64 }) ?_ ?_
        · skip
          refine AWp.iter hxK68 [2, 3, 4, 8, 31, 32, 33] [] 1 (lb rfl) (fun (v44, v45) => { env := [(2, (.d (.list 2 x5))), (3, (.lbox [(.d (.int .i64 x1)), (.d (.list 3 x2))])), (4, (.lbox [(.d (.int .i64 x3)), (.d (.list 3 x4))])), (8, (.mref 0 1 0 x1)), (31, (.d (.list 2 x5))), (32, (.d (.int .i64 (A.len x5)))), (33, (.d (.int .i64 v44)))], heap := [(.arr 1 v45)], n := 64 }) ⟨rfl, (by first | (cbv; done) | ((repeat (cbv; simp only [c13, c16])); first | done | cbv))⟩ ?_
          rintro ⟨v44, v45⟩ eK68 hsK68
          dsimp only [R48L0] at hsK68
          refine AWp.seq ?_
          refine AWp.rg hT hA {} (by cbv) (lb rfl) ?_
          refine nT ?_
          refine AWp.seq ?_
          rcases tf (A.zlt v44 (A.len x5)) with c46 | c46
          · replace hsK68 := cT c46 hsK68
            refine AWp.cdT rfl (by first | rfl | simp only [c46, Bool.not_true, Bool.not_false, cond_true, cond_false]) ?_
            refine AWp.skip ?_
            refine nT ?_
            refine AWp.seq ?_
            refine AWp.block ?_
            refine AWp.seq ?_
            obtain ⟨⟨a47, a48⟩, e49, hsK68⟩ := bindS hsK68
            obtain ⟨f50, f51⟩ := gtI e49
            refine AWp.rg hT hA { tk := [36] } (by (repeat (cbv; simp only [c46, f50, f51])); first | done | cbv) (lb rfl) ?_
            refine nT ?_
            obtain ⟨_, e52, hsK68⟩ := bindS hsK68
            have f54 := ckI e52
            obtain ⟨_, e53, hsK68⟩ := bindS hsK68
            have f55 := ckI e53
            obtain ⟨a56, e57, hsK68⟩ := bindS hsK68
            have f58 := gcI e57
            obtain ⟨_, e59, hsK68⟩ := bindS hsK68
            have f60 := nkI e59
            obtain ⟨_, e61, hsK68⟩ := bindS hsK68
            have f63 := ckI e61
            obtain ⟨_, e62, hsK68⟩ := bindS hsK68
            have f64 := ckI e62
            obtain ⟨d65, e66, hsK68⟩ := bindS hsK68
            refine AWp.rd hT hA { tk := [45] } rfl (by (repeat (cbv; simp only [c46, f54, f55, f58, f60, f63, f64, e66])); first | done | cbv) (by kernel_rfl) (lb rfl) ?_
            refine nB ?_
            refine nT ?_
            refine AWp.rg hT hA {} (by (repeat (cbv; simp only [c46])); first | done | cbv) (lb rfl) ?_
            exact nT ⟨_, (soI hsK68).symm, rfl, (by first | (cbv; done) | ((repeat (cbv; simp only [c46])); first | done | cbv))⟩
          · replace hsK68 := cF c46 hsK68
            refine AWp.cdF rfl (by first | rfl | simp only [c46, Bool.not_true, Bool.not_false, cond_true, cond_false]) ?_
            refine AWp.exit ?_
            refine xT ?_
            refine xT ?_
            refine exL hsK68 fun hx => ?_
            subst hx
            exact oxI ⟨rfl, _, hkK68, (by first | (cbv; done) | ((repeat (cbv; simp only [c46])); first | done | cbv))⟩
        · rintro _ ⟨v67, hkK68, rfl⟩
          have h := (hK68 _ hkK68)
          refine xB ?_
          refine nT ?_
          refine AWp.seq ?_
          refine AWp.seq ?_
          refine AWp.rg hT hA {} (by cbv) (lb rfl) ?_
          refine nT ?_
          refine AWp.block ?_
          obtain ⟨xK88, hxK88, K88, hK88, hkK88⟩ := bindK h
          refine AWp.cutX 2 [] [] 1 (lb rfl) (fun τ => K88 (.inl ()) = some (v89, v90) ∧ τ = { env := [], heap := [(.arr 1 v67)], n := 64 }) ?_ ?_
          · skip
            refine AWp.iter hxK88 [3, 4, 8, 48, 49, 50] [] 1 (lb rfl) (fun v78 => { env := [(3, (.lbox [(.d (.int .i64 x1)), (.d (.list 3 x2))])), (4, (.lbox [(.d (.int .i64 x3)), (.d (.list 3 x4))])), (8, (.mref 0 1 0 x1)), (48, (.d (.list 2 x5))), (49, (.d (.int .i64 (A.len x5)))), (50, (.d (.int .i64 v78)))], heap := [(.arr 1 v67)], n := 64 }) ⟨rfl, (by cbv)⟩ ?_
            rintro v78 eK88 hsK88
            dsimp only [R48L1] at hsK88
            refine AWp.seq ?_
            refine AWp.rg hT hA {} (by cbv) (lb rfl) ?_
            refine nT ?_
            refine AWp.seq ?_
            rcases tf (A.zlt v78 (A.len x5)) with c79 | c79
            · replace hsK88 := cT c79 hsK88
              refine AWp.cdT rfl (by first | rfl | simp only [c79, Bool.not_true, Bool.not_false, cond_true, cond_false]) ?_
              refine AWp.skip ?_
              refine nT ?_
              refine AWp.seq ?_
              refine AWp.block ?_
              refine AWp.seq ?_
              obtain ⟨⟨a80, a81⟩, e82, hsK88⟩ := bindS hsK88
              obtain ⟨f83, f84⟩ := gtI e82
              refine AWp.rg hT hA { tk := [53] } (by (repeat (cbv; simp only [c79, f83, f84])); first | done | cbv) (lb rfl) ?_
              refine nT ?_
              refine AWp.seq ?_
              refine AWp.region ?_
              obtain ⟨r86, e85, hsK88⟩ := bindS hsK88
              refine AOps.cc hT hA {} (by (repeat (cbv; simp only [c79])); first | done | cbv) (lb rfl) (R96w hA e85) rfl (.inl rfl) rfl rfl rfl (lb rfl) rfl rfl ?_
              refine AOps.cd hT hA {} (by (repeat (cbv; simp only [c79])); first | done | cbv) (lb rfl) ?_
              refine nT ?_
              rcases tf r86 with c87 | c87
              · replace hsK88 := cT c87 hsK88
                refine AWp.cdF rfl (by first | rfl | simp only [c79, c87, Bool.not_true, Bool.not_false, cond_true, cond_false]) ?_
                refine AWp.skip ?_
                refine nB ?_
                refine nT ?_
                refine AWp.rg hT hA {} (by (repeat (cbv; simp only [c79, c87])); first | done | cbv) (lb rfl) ?_
                exact nT ⟨_, (soI hsK88).symm, rfl, (by first | (cbv; done) | ((repeat (cbv; simp only [c79, c87])); first | done | cbv))⟩
              · replace hsK88 := cF c87 hsK88
                refine AWp.cdT rfl (by first | rfl | simp only [c79, c87, Bool.not_true, Bool.not_false, cond_true, cond_false]) ?_
                refine AWp.seq ?_
                refine AWp.rg hT hA {} (by (repeat (cbv; simp only [c79, c87])); first | done | cbv) (lb rfl) ?_
                refine nT ?_
                refine AWp.ret ?_
                refine rB ?_
                refine rT ?_
                refine rT ?_
                refine exL hsK88 fun hx => ?_
                subst hx
                refine oxR ?_
                replace hkK88 := (eR (hK88 _ hkK88))
                refine rB ?_
                refine rT ?_
                cases soI hkK88
                exact ⟨rfl, rfl, rfl, lb rfl, _, rfl⟩
            · replace hsK88 := cF c79 hsK88
              refine AWp.cdF rfl (by first | rfl | simp only [c79, Bool.not_true, Bool.not_false, cond_true, cond_false]) ?_
              refine AWp.exit ?_
              refine xT ?_
              refine xT ?_
              refine exL hsK88 fun hx => ?_
              subst hx
              exact oxI ⟨rfl, hkK88, (by first | (cbv; done) | ((repeat (cbv; simp only [c79])); first | done | cbv))⟩
          · rintro _ ⟨hkK88, rfl⟩
            have h := (eL (hK88 _ hkK88))
            refine xB ?_
            refine nT ?_
            refine AWp.seq ?_
            refine AWp.rg hT hA {} (by cbv) (lb rfl) ?_
            refine nT ?_
            refine AWp.ret ?_
            cases soI h
            exact ⟨rfl, rfl, rfl, lb rfl, _, rfl⟩
      · replace h := cF c16 h
        refine AWp.cdT rfl (by first | rfl | simp only [c13, c16, Bool.not_true, Bool.not_false, cond_true, cond_false]) ?_
        refine AWp.seq ?_
        refine AWp.rg hT hA {} (by (repeat (cbv; simp only [c13, c16])); first | done | cbv) (lb rfl) ?_
        refine nT ?_
        refine AWp.ret ?_
        refine rT ?_
        cases soI h
        exact ⟨rfl, rfl, rfl, lb rfl, _, rfl⟩

theorem R52w {A : Ar} (hA : A = Ar.std) {x1 : Int} {x2 : List D} {x3 : Int} {x4 : List D} {v18 : Bool} {v19 : Int} (h : R52 A x1 x2 x3 x4 = some (v18, v19)) : ACall Try.prog 52 [(.d (.agg [(.int .i64 x1), (.list 3 x2)])), (.d (.agg [(.int .i64 x3), (.list 3 x4)]))] [] (.tuple [(.d (.bool v18)), (.d (.int .i64 v19))]) [] := by
  unfold R52 at h
  refine ACall.enter hT (fn := Try.f52) Try.func52 rfl (by decide) (by simp [Try.f52]) rfl rfl rfl rfl (lb rfl) ?_
  refine AWp.seq ?_
  refine AWp.rg hT hA {} (by cbv) (lb rfl) ?_
  refine nT ?_
  refine AWp.seq ?_
  refine AWp.seq ?_
  obtain ⟨v10, hvK11, h⟩ := bindS h
  refine AWp.cutN [2, 3, 13] [] 0 (lb rfl) (fun τ => τ = { env := [(2, (.lbox [(.d (.int .i64 x1)), (.d (.list 3 x2))])), (3, (.lbox [(.d (.int .i64 x3)), (.d (.list 3 x4))])), (13, (.d (.bool v10)))], heap := [], n := 21 }) ?_ ?_
  · skip
    refine AWp.region ?_
    obtain ⟨r6, e5, hvK11⟩ := bindS hvK11
    refine AOps.cc hT hA {} (by cbv) (lb rfl) (R34w hA e5) rfl (.inl rfl) rfl rfl rfl (lb rfl) rfl rfl ?_
    rcases tf r6 with c7 | c7
    · replace hvK11 := cT c7 hvK11
      obtain ⟨r9, e8, hvK11⟩ := bindS hvK11
      refine AOps.cc hT hA {} (by (repeat (cbv; simp only [c7])); first | done | cbv) (lb rfl) (R34w hA e8) rfl (.inl rfl) rfl rfl rfl (lb rfl) rfl rfl ?_
      refine AOps.cd hT hA {} (by (repeat (cbv; simp only [c7])); first | done | cbv) (lb rfl) ?_
      cases soI hvK11
      exact oNi ⟨rfl, (by first | (cbv; done) | ((repeat (cbv; simp only [c7])); first | done | cbv))⟩
    · replace hvK11 := cF c7 hvK11
      refine AOps.cd hT hA {} (by (repeat (cbv; simp only [c7])); first | done | cbv) (lb rfl) ?_
      cases soI hvK11
      exact oNi ⟨rfl, (by first | (cbv; done) | ((repeat (cbv; simp only [c7])); first | done | cbv))⟩
  · rintro _ rfl
    refine nT ?_
    rcases tf v10 with c12 | c12
    · replace h := cT c12 h
      refine AWp.cdT rfl (by first | rfl | simp only [c12, Bool.not_true, Bool.not_false, cond_true, cond_false]) ?_
      refine AWp.seq ?_
      refine AWp.rg hT hA {} (by (repeat (cbv; simp only [c12])); first | done | cbv) (lb rfl) ?_
      refine nT ?_
      refine AWp.ret ?_
      refine rT ?_
      cases soI h
      exact ⟨rfl, rfl, rfl, lb rfl, _, rfl⟩
    · replace h := cF c12 h
      refine AWp.cdF rfl (by first | rfl | simp only [c12, Bool.not_true, Bool.not_false, cond_true, cond_false]) ?_
      refine AWp.skip ?_
      refine nT ?_
      refine AWp.seq ?_
      refine AWp.region ?_
      obtain ⟨r14, e13, h⟩ := bindS h
      refine AOps.cc hT hA {} (by (repeat (cbv; simp only [c12])); first | done | cbv) (lb rfl) (R100w hA e13) rfl (.inl rfl) rfl rfl rfl (lb rfl) rfl rfl ?_
      obtain ⟨a15, e16, h⟩ := bindS h
      have f17 := gcI e16
      refine AOps.cd hT hA {} (by (repeat (cbv; simp only [c12, f17])); first | done | cbv) (lb rfl) ?_
      refine nT ?_
      refine AWp.ret ?_
      cases soI h
      exact ⟨rfl, rfl, rfl, lb rfl, _, rfl⟩

theorem R12w {A : Ar} (hA : A = Ar.std) {x1 : Int} {x2 : List D} {x3 : Int} {x4 : List D} {x5 : List D} {v61 : Bool} (h : R12 A x1 x2 x3 x4 x5 = some v61) : ACall Try.prog 12 [(.d (.agg [(.int .i64 x1), (.list 3 x2)])), (.d (.agg [(.int .i64 x3), (.list 3 x4)])), (.d (.list 2 x5))] [] (.d (.bool v61)) [] := by
  unfold R12 at h
  refine ACall.enter hT (fn := Try.f12) Try.func12 rfl (by decide) (by simp [Try.f12]) rfl rfl rfl rfl (lb rfl) ?_
  refine AWp.seq ?_
  refine AWp.rg hT hA {} (by cbv) (lb rfl) ?_
  refine nT ?_
  refine AWp.seq ?_
  refine AWp.seq ?_
  obtain ⟨v12, hvK13, h⟩ := bindS h
  refine AWp.cutN [2, 3, 4, 27] [] 0 (lb rfl) (fun τ => τ = { env := [(2, (.d (.list 2 x5))), (3, (.lbox [(.d (.int .i64 x1)), (.d (.list 3 x2))])), (4, (.lbox [(.d (.int .i64 x3)), (.d (.list 3 x4))])), (27, (.d (.bool v12)))], heap := [], n := 118 }) ?_ ?_
  · skip
    refine AWp.region ?_
    obtain ⟨r7, e6, hvK13⟩ := bindS hvK13
    refine AOps.cc hT hA {} (by cbv) (lb rfl) (R16w hA e6) rfl (.inl rfl) rfl rfl rfl (lb rfl) rfl rfl ?_
    rcases tf r7 with c8 | c8
    · replace hvK13 := cT c8 hvK13
      refine AOps.cd hT hA {} (by (repeat (cbv; simp only [c8])); first | done | cbv) (lb rfl) ?_
      cases soI hvK13
      exact oNi ⟨rfl, (by first | (cbv; done) | ((repeat (cbv; simp only [c8])); first | done | cbv))⟩
    · replace hvK13 := cF c8 hvK13
      obtain ⟨r10, e9, hvK13⟩ := bindS hvK13
      refine AOps.cc hT hA {} (by (repeat (cbv; simp only [c8])); first | done | cbv) (lb rfl) (R16w hA e9) rfl (.inl rfl) rfl rfl rfl (lb rfl) rfl rfl ?_
      rcases tf r10 with c11 | c11
      · replace hvK13 := cT c11 hvK13
        refine AOps.cd hT hA {} (by (repeat (cbv; simp only [c8, c11])); first | done | cbv) (lb rfl) ?_
        cases soI hvK13
        exact oNi ⟨rfl, (by first | (cbv; done) | ((repeat (cbv; simp only [c8, c11])); first | done | cbv))⟩
      · replace hvK13 := cF c11 hvK13
        refine AOps.cd hT hA {} (by (repeat (cbv; simp only [c8, c11])); first | done | cbv) (lb rfl) ?_
        cases soI hvK13
        exact oNi ⟨rfl, (by first | (cbv; done) | ((repeat (cbv; simp only [c8, c11])); first | done | cbv))⟩
  · rintro _ rfl
    refine nT ?_
    rcases tf v12 with c14 | c14
    · replace h := cT c14 h
      refine AWp.cdT rfl (by first | rfl | simp only [c14, Bool.not_true, Bool.not_false, cond_true, cond_false]) ?_
      refine AWp.seq ?_
      refine AWp.region ?_
      obtain ⟨r16, e15, h⟩ := bindS h
      refine AOps.cc hT hA { tk := [28] } (by (repeat (cbv; simp only [c14])); first | done | cbv) (lb rfl) (R17w hA e15) rfl (.inl rfl) rfl rfl rfl (lb rfl) rfl rfl ?_
      refine AOps.cd hT hA { tk := [28] } (by (repeat (cbv; simp only [c14])); first | done | cbv) (lb rfl) ?_
      refine nT ?_
      refine AWp.ret ?_
      refine rT ?_
      cases soI h
      exact ⟨rfl, rfl, rfl, lb rfl, _, rfl⟩
    · replace h := cF c14 h
      refine AWp.cdF rfl (by first | rfl | simp only [c14, Bool.not_true, Bool.not_false, cond_true, cond_false]) ?_
      refine AWp.skip ?_
      refine nT ?_
      refine AWp.seq ?_
      refine AWp.region ?_
      obtain ⟨⟨r18, r19⟩, e17, h⟩ := bindS h
      refine AOps.cc hT hA {} (by (repeat (cbv; simp only [c14])); first | done | cbv) (lb rfl) (R47w hA e17) rfl (.inl rfl) rfl rfl rfl (lb rfl) rfl rfl ?_
      refine AOps.cd hT hA {} (by (repeat (cbv; simp only [c14])); first | done | cbv) (lb rfl) ?_
      refine nT ?_
      refine AWp.seq ?_
      refine AWp.region ?_
      obtain ⟨⟨r21, r22⟩, e20, h⟩ := bindS h
      refine AOps.cc hT hA {} (by (repeat (cbv; simp only [c14])); first | done | cbv) (lb rfl) (R50w hA e20) rfl (.inl rfl) rfl rfl rfl (lb rfl) rfl rfl ?_
      refine AOps.cd hT hA {} (by (repeat (cbv; simp only [c14])); first | done | cbv) (lb rfl) ?_
      refine nT ?_
      refine AWp.seq ?_
      refine AWp.seq ?_
      obtain ⟨v26, hvK27, h⟩ := bindS h
      refine AWp.cutN [2, 3, 4, 49] [] 0 (lb rfl) (fun τ => τ = { env := [(2, (.d (.list 2 x5))), (3, (.lbox [(.d (.int .i64 x1)), (.d (.list 3 x2))])), (4, (.lbox [(.d (.int .i64 x3)), (.d (.list 3 x4))])), (49, (.d (.bool v26)))], heap := [], n := 118 }) ?_ ?_
      · skip
        refine AWp.region ?_
        obtain ⟨r24, e23, hvK27⟩ := bindS hvK27
        refine AOps.cc hT hA {} (by (repeat (cbv; simp only [c14])); first | done | cbv) (lb rfl) (R41w hA e23) rfl (.inl rfl) rfl rfl rfl (lb rfl) rfl rfl ?_
        rcases tf r24 with c25 | c25
        · replace hvK27 := cT c25 hvK27
          refine AOps.cd hT hA {} (by (repeat (cbv; simp only [c14, c25])); first | done | cbv) (lb rfl) ?_
          cases soI hvK27
          exact oNi ⟨rfl, (by first | (cbv; done) | ((repeat (cbv; simp only [c14, c25])); first | done | cbv))⟩
        · replace hvK27 := cF c25 hvK27
          refine AOps.cd hT hA {} (by (repeat (cbv; simp only [c14, c25])); first | done | cbv) (lb rfl) ?_
          cases soI hvK27
          exact oNi ⟨rfl, (by first | (cbv; done) | ((repeat (cbv; simp only [c14, c25])); first | done | cbv))⟩
      · rintro _ rfl
        refine nT ?_
        rcases tf v26 with c28 | c28
        · replace h := cT c28 h
          refine AWp.cdT rfl (by first | rfl | simp only [c28, Bool.not_true, Bool.not_false, cond_true, cond_false]) ?_
          refine AWp.seq ?_
          refine AWp.rg hT hA {} (by (repeat (cbv; simp only [c28])); first | done | cbv) (lb rfl) ?_
          refine nT ?_
          refine AWp.ret ?_
          refine rT ?_
          cases soI h
          exact ⟨rfl, rfl, rfl, lb rfl, _, rfl⟩
        · replace h := cF c28 h
          refine AWp.cdF rfl (by first | rfl | simp only [c28, Bool.not_true, Bool.not_false, cond_true, cond_false]) ?_
          refine AWp.skip ?_
          refine nT ?_
          refine AWp.seq ?_
          refine AWp.region ?_
          obtain ⟨⟨r30, r31⟩, e29, h⟩ := bindS h
          refine AOps.cc hT hA {} (by (repeat (cbv; simp only [c28])); first | done | cbv) (lb rfl) (R46w hA e29) rfl (.inl rfl) rfl rfl rfl (lb rfl) rfl rfl ?_
          refine AOps.cd hT hA {} (by (repeat (cbv; simp only [c28])); first | done | cbv) (lb rfl) ?_
          refine nT ?_
          refine AWp.seq ?_
          refine AWp.region ?_
          obtain ⟨⟨r33, r34⟩, e32, h⟩ := bindS h
          refine AOps.cc hT hA {} (by (repeat (cbv; simp only [c28])); first | done | cbv) (lb rfl) (R51w hA e32) rfl (.inl rfl) rfl rfl rfl (lb rfl) rfl rfl ?_
          refine AOps.cd hT hA {} (by (repeat (cbv; simp only [c28])); first | done | cbv) (lb rfl) ?_
          refine nT ?_
          refine AWp.seq ?_
          refine AWp.seq ?_
          obtain ⟨v38, hvK39, h⟩ := bindS h
          refine AWp.cutN [2, 3, 4, 70] [] 0 (lb rfl) (fun τ => τ = { env := [(2, (.d (.list 2 x5))), (3, (.lbox [(.d (.int .i64 x1)), (.d (.list 3 x2))])), (4, (.lbox [(.d (.int .i64 x3)), (.d (.list 3 x4))])), (70, (.d (.bool v38)))], heap := [], n := 118 }) ?_ ?_
          · skip
            refine AWp.region ?_
            obtain ⟨r36, e35, hvK39⟩ := bindS hvK39
            refine AOps.cc hT hA {} (by (repeat (cbv; simp only [c28])); first | done | cbv) (lb rfl) (R41w hA e35) rfl (.inl rfl) rfl rfl rfl (lb rfl) rfl rfl ?_
            rcases tf r36 with c37 | c37
            · replace hvK39 := cT c37 hvK39
              refine AOps.cd hT hA {} (by (repeat (cbv; simp only [c28, c37])); first | done | cbv) (lb rfl) ?_
              cases soI hvK39
              exact oNi ⟨rfl, (by first | (cbv; done) | ((repeat (cbv; simp only [c28, c37])); first | done | cbv))⟩
            · replace hvK39 := cF c37 hvK39
              refine AOps.cd hT hA {} (by (repeat (cbv; simp only [c28, c37])); first | done | cbv) (lb rfl) ?_
              cases soI hvK39
              exact oNi ⟨rfl, (by first | (cbv; done) | ((repeat (cbv; simp only [c28, c37])); first | done | cbv))⟩
          · rintro _ rfl
            refine nT ?_
            rcases tf v38 with c40 | c40
            · replace h := cT c40 h
              refine AWp.cdT rfl (by first | rfl | simp only [c40, Bool.not_true, Bool.not_false, cond_true, cond_false]) ?_
              refine AWp.seq ?_
              refine AWp.rg hT hA {} (by (repeat (cbv; simp only [c40])); first | done | cbv) (lb rfl) ?_
              refine nT ?_
              refine AWp.ret ?_
              refine rT ?_
              cases soI h
              exact ⟨rfl, rfl, rfl, lb rfl, _, rfl⟩
            · replace h := cF c40 h
              refine AWp.cdF rfl (by first | rfl | simp only [c40, Bool.not_true, Bool.not_false, cond_true, cond_false]) ?_
              refine AWp.skip ?_
              refine nT ?_
              refine AWp.seq ?_
              refine AWp.region ?_
              obtain ⟨⟨r42, r43⟩, e41, h⟩ := bindS h
              refine AOps.cc hT hA {} (by (repeat (cbv; simp only [c40])); first | done | cbv) (lb rfl) (R49w hA e41) rfl (.inl rfl) rfl rfl rfl (lb rfl) rfl rfl ?_
              refine AOps.cd hT hA {} (by (repeat (cbv; simp only [c40])); first | done | cbv) (lb rfl) ?_
              refine nT ?_
              refine AWp.seq ?_
              refine AWp.region ?_
              obtain ⟨⟨r45, r46⟩, e44, h⟩ := bindS h
              refine AOps.cc hT hA {} (by (repeat (cbv; simp only [c40])); first | done | cbv) (lb rfl) (R48w hA e44) rfl (.inl rfl) rfl rfl rfl (lb rfl) rfl rfl ?_
              refine AOps.cd hT hA {} (by (repeat (cbv; simp only [c40])); first | done | cbv) (lb rfl) ?_
              refine nT ?_
              refine AWp.seq ?_
              refine AWp.region ?_
              obtain ⟨⟨r48, r49⟩, e47, h⟩ := bindS h
              refine AOps.cc hT hA {} (by (repeat (cbv; simp only [c40])); first | done | cbv) (lb rfl) (R44w hA e47) rfl (.inl rfl) rfl rfl rfl (lb rfl) rfl rfl ?_
              refine AOps.cd hT hA {} (by (repeat (cbv; simp only [c40])); first | done | cbv) (lb rfl) ?_
              refine nT ?_
              refine AWp.seq ?_
              refine AWp.region ?_
              obtain ⟨⟨r51, r52⟩, e50, h⟩ := bindS h
              refine AOps.cc hT hA {} (by (repeat (cbv; simp only [c40])); first | done | cbv) (lb rfl) (R52w hA e50) rfl (.inl rfl) rfl rfl rfl (lb rfl) rfl rfl ?_
              refine AOps.cd hT hA {} (by (repeat (cbv; simp only [c40])); first | done | cbv) (lb rfl) ?_
              refine nT ?_
              refine AWp.seq ?_
              obtain ⟨v59, hvK60, h⟩ := bindS h
              refine AWp.cutN [6] [] 0 (lb rfl) (fun τ => τ = { env := [(6, (.d (.bool v59)))], heap := [], n := 118 }) ?_ ?_
              · skip
                refine AWp.region ?_
                rcases tf (A.beq r42 r45) with c53 | c53
                · replace hvK60 := cT c53 hvK60
                  rcases tf (A.zeq r43 r46) with c54 | c54
                  · replace hvK60 := cT c54 hvK60
                    rcases tf (A.beq r48 r51) with c55 | c55
                    · replace hvK60 := cT c55 hvK60
                      rcases tf (A.zeq r49 r52) with c56 | c56
                      · replace hvK60 := cT c56 hvK60
                        obtain ⟨r58, e57, hvK60⟩ := bindS hvK60
                        refine AOps.cc hT hA { tk := [117] } (by (repeat (cbv; simp only [c40, c53, c54, c55, c56])); first | done | cbv) (lb rfl) (R17w hA e57) rfl (.inl rfl) rfl rfl rfl (lb rfl) rfl rfl ?_
                        refine AOps.cd hT hA { tk := [117] } (by (repeat (cbv; simp only [c40, c53, c54, c55, c56])); first | done | cbv) (lb rfl) ?_
                        cases soI hvK60
                        exact oNi ⟨rfl, (by first | (cbv; done) | ((repeat (cbv; simp only [c40, c53, c54, c55, c56])); first | done | cbv))⟩
                      · replace hvK60 := cF c56 hvK60
                        refine AOps.cd hT hA { tk := [117] } (by (repeat (cbv; simp only [c40, c53, c54, c55, c56])); first | done | cbv) (lb rfl) ?_
                        cases soI hvK60
                        exact oNi ⟨rfl, (by first | (cbv; done) | ((repeat (cbv; simp only [c40, c53, c54, c55, c56])); first | done | cbv))⟩
                    · replace hvK60 := cF c55 hvK60
                      refine AOps.cd hT hA { tk := [117] } (by (repeat (cbv; simp only [c40, c53, c54, c55])); first | done | cbv) (lb rfl) ?_
                      cases soI hvK60
                      exact oNi ⟨rfl, (by first | (cbv; done) | ((repeat (cbv; simp only [c40, c53, c54, c55])); first | done | cbv))⟩
                  · replace hvK60 := cF c54 hvK60
                    refine AOps.cd hT hA { tk := [117] } (by (repeat (cbv; simp only [c40, c53, c54])); first | done | cbv) (lb rfl) ?_
                    cases soI hvK60
                    exact oNi ⟨rfl, (by first | (cbv; done) | ((repeat (cbv; simp only [c40, c53, c54])); first | done | cbv))⟩
                · replace hvK60 := cF c53 hvK60
                  refine AOps.cd hT hA { tk := [117] } (by (repeat (cbv; simp only [c40, c53])); first | done | cbv) (lb rfl) ?_
                  cases soI hvK60
                  exact oNi ⟨rfl, (by first | (cbv; done) | ((repeat (cbv; simp only [c40, c53])); first | done | cbv))⟩
              · rintro _ rfl
                refine nT ?_
                refine AWp.ret ?_
                cases soI h
                exact ⟨rfl, rfl, rfl, lb rfl, _, rfl⟩
end Go.Am
