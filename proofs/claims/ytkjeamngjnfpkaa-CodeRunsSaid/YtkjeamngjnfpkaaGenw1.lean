/- Own text: Genw1. -/
import Derived.Test.YtkjeamngjnfpkaaGenw0
set_option maxRecDepth 100000
set_option maxHeartbeats 2000000
set_option linter.unusedVariables false
set_option linter.unusedSimpArgs false
namespace Go.Am
open Go Go.Proofs
theorem C12w {A : Ar} (hA : A = Ar.std) {x1 : List D} {x2 : List D} {v8 : Bool} {v9 : Int} (h : C12 A x1 x2 = some (v8, v9)) : ACall Try.prog 12 [(.d (.list 1 x1)), (.d (.list 1 x2))] [] (.tuple [(.d (.bool v8)), (.d (.int .i64 v9))]) [] := by
  unfold C12 at h
  refine ACall.enter hT (fn := Try.f12) Try.func12 rfl (by decide) (by simp [Try.f12]) rfl rfl rfl rfl (lb rfl) ?_
  refine AWp.seq ?_
  refine AWp.rg hT hA {} (by cbv) (lb rfl) ?_
  refine nT ?_
  refine AWp.seq ?_
  refine AWp.seq ?_
  refine AWp.region ?_
  obtain ⟨r4, e3, h⟩ := bindS h
  refine AOps.cc hT hA {} (by cbv) (lb rfl) (C16w hA e3) rfl (.inl rfl) rfl rfl rfl (lb rfl) rfl rfl ?_
  refine AOps.cd hT hA {} (by cbv) (lb rfl) ?_
  refine nT ?_
  rcases tf r4 with c5 | c5
  · replace h := cT c5 h
    refine AWp.cdF rfl (by first | rfl | simp only [c5, Bool.not_true, Bool.not_false, cond_true, cond_false]) ?_
    refine AWp.skip ?_
    refine nT ?_
    refine AWp.seq ?_
    refine AWp.region ?_
    obtain ⟨r7, e6, h⟩ := bindS h
    refine AOps.cc hT hA {} (by (repeat (cbv; simp only [c5])); first | done | cbv) (lb rfl) (C43w hA e6) rfl (.inl rfl) rfl rfl rfl (lb rfl) rfl rfl ?_
    refine AOps.cd hT hA {} (by (repeat (cbv; simp only [c5])); first | done | cbv) (lb rfl) ?_
    refine nT ?_
    refine AWp.ret ?_
    cases soI h
    exact ⟨rfl, rfl, rfl, lb rfl, _, rfl⟩
  · replace h := cF c5 h
    refine AWp.cdT rfl (by first | rfl | simp only [c5, Bool.not_true, Bool.not_false, cond_true, cond_false]) ?_
    refine AWp.seq ?_
    refine AWp.rg hT hA {} (by (repeat (cbv; simp only [c5])); first | done | cbv) (lb rfl) ?_
    refine nT ?_
    refine AWp.ret ?_
    refine rT ?_
    cases soI h
    exact ⟨rfl, rfl, rfl, lb rfl, _, rfl⟩

theorem C105w {A : Ar} (hA : A = Ar.std) {x1 : List D} {x2 : List D} {v9 : Int} (h : C105 A x1 x2 = some v9) : ACall Try.prog 105 [(.d (.list 1 x1)), (.d (.list 1 x2))] [] (.d (.int .i64 v9)) [] := by
  unfold C105 at h
  refine ACall.enter hT (fn := Try.f105) Try.func105 rfl (by decide) (by simp [Try.f105]) rfl rfl rfl rfl (lb rfl) ?_
  refine AWp.seq ?_
  refine AWp.rg hT hA {} (by cbv) (lb rfl) ?_
  refine nT ?_
  refine AWp.seq ?_
  refine AWp.seq ?_
  refine AWp.region ?_
  obtain ⟨r4, e3, h⟩ := bindS h
  refine AOps.cc hT hA {} (by cbv) (lb rfl) (C16w hA e3) rfl (.inl rfl) rfl rfl rfl (lb rfl) rfl rfl ?_
  refine AOps.cd hT hA {} (by cbv) (lb rfl) ?_
  refine nT ?_
  rcases tf r4 with c5 | c5
  · replace h := cT c5 h
    refine AWp.cdF rfl (by first | rfl | simp only [c5, Bool.not_true, Bool.not_false, cond_true, cond_false]) ?_
    refine AWp.skip ?_
    refine nT ?_
    refine AWp.seq ?_
    refine AWp.seq ?_
    refine AWp.region ?_
    obtain ⟨r7, e6, h⟩ := bindS h
    refine AOps.cc hT hA {} (by (repeat (cbv; simp only [c5])); first | done | cbv) (lb rfl) (C43w hA e6) rfl (.inl rfl) rfl rfl rfl (lb rfl) rfl rfl ?_
    refine AOps.cd hT hA {} (by (repeat (cbv; simp only [c5])); first | done | cbv) (lb rfl) ?_
    refine nT ?_
    rcases tf r7 with c8 | c8
    · replace h := cT c8 h
      refine AWp.cdF rfl (by first | rfl | simp only [c5, c8, Bool.not_true, Bool.not_false, cond_true, cond_false]) ?_
      refine AWp.skip ?_
      refine nT ?_
      refine AWp.seq ?_
      refine AWp.rg hT hA {} (by (repeat (cbv; simp only [c5, c8])); first | done | cbv) (lb rfl) ?_
      refine nT ?_
      refine AWp.ret ?_
      cases soI h
      exact ⟨rfl, rfl, rfl, lb rfl, _, rfl⟩
    · replace h := cF c8 h
      refine AWp.cdT rfl (by first | rfl | simp only [c5, c8, Bool.not_true, Bool.not_false, cond_true, cond_false]) ?_
      refine AWp.seq ?_
      refine AWp.rg hT hA {} (by (repeat (cbv; simp only [c5, c8])); first | done | cbv) (lb rfl) ?_
      refine nT ?_
      refine AWp.ret ?_
      refine rT ?_
      cases soI h
      exact ⟨rfl, rfl, rfl, lb rfl, _, rfl⟩
  · replace h := cF c5 h
    refine AWp.cdT rfl (by first | rfl | simp only [c5, Bool.not_true, Bool.not_false, cond_true, cond_false]) ?_
    refine AWp.seq ?_
    refine AWp.rg hT hA {} (by (repeat (cbv; simp only [c5])); first | done | cbv) (lb rfl) ?_
    refine nT ?_
    refine AWp.ret ?_
    refine rT ?_
    cases soI h
    exact ⟨rfl, rfl, rfl, lb rfl, _, rfl⟩

theorem C76w {A : Ar} (hA : A = Ar.std) {x1 : List D} {x2 : List D} {x3 : List D} {v10 : List D} {v11 : List D} {v12 : List D} {v13 : List D} (h : C76 A x1 x2 x3 = some (v10, v11, v12, v13)) : ACall Try.prog 76 [(.d (.list 1 x1)), (.d (.list 1 x2)), (.d (.list 1 x3))] [] (.ptr 0 0) [(.cells [(.d (.list 1 v10)), (.d (.list 1 v11)), (.d (.list 1 v12)), (.gref 1 8), (.d (.int .i64 0)), (.d (.int .i64 0)), (.d (.int .i64 0)), (.d (.int .i64 0)), (.gref 4 6), (.gref 7 1)]), (.gro 8 v13), .dead, .dead, (.gro 6 []), .dead, .dead, (.gro 1 []), .dead, .dead] := by
  unfold C76 at h
  refine ACall.enter hT (fn := Try.f76) Try.func76 rfl (by decide) (by simp [Try.f76]) rfl rfl rfl rfl (lb rfl) ?_
  refine AWp.seq ?_
  refine AWp.rg hT hA {} (by cbv) (lb rfl) ?_
  refine nT ?_
  refine AWp.seq ?_
  obtain ⟨_, e7, h⟩ := bindS h
  have f4 := ckI e7
  obtain ⟨_, e8, h⟩ := bindS h
  have f5 := ckI e8
  obtain ⟨_, e9, h⟩ := bindS h
  have f6 := ckI e9
  refine AWp.rg hT hA { tk := [14], esc := [14], gr := [12], nl := [13] } (by (repeat (cbv; simp only [f4, f5, f6])); first | done | cbv) (lb rfl) ?_
  refine nT ?_
  refine AWp.weak (Wk.settle 3 8 rfl rfl rfl) ?_
  refine AWp.weak (Wk.settle 3 9 rfl rfl rfl) ?_
  refine AWp.weak (Wk.ren [some 3, some 0, some 1, some 2, some 4, some 5, some 6, some 7, some 8, some 9] [6] rfl rfl) ?_
  refine AWp.ret ?_
  cases soI h
  exact ⟨rfl, rfl, rfl, lb rfl, _, rfl⟩

theorem C57w {A : Ar} (hA : A = Ar.std) {x1 : Int} {x2 : List D} {x3 : List D} {x4 : List D} {x5 : Int} {x6 : Int} {x7 : Int} {x8 : Int} {x9 : List D} {x10 : List D} {x11 : List D} {v37 : Bool} (h : C57 A x1 x2 x3 x4 x5 x6 x7 x8 x9 x10 x11 = some v37) : ACall Try.prog 57 [(.ptr 0 0), (.d (.int .i64 x1))] [(.cells [(.d (.list 1 x2)), (.d (.list 1 x3)), (.d (.list 1 x4)), (.gref 1 8), (.d (.int .i64 x5)), (.d (.int .i64 x6)), (.d (.int .i64 x7)), (.d (.int .i64 x8)), (.gref 4 6), (.gref 7 1)]), (.gro 8 x9), .dead, .dead, (.gro 6 x10), .dead, .dead, (.gro 1 x11), .dead, .dead] (.d (.bool v37)) [(.cells [(.d (.list 1 x2)), (.d (.list 1 x3)), (.d (.list 1 x4)), (.gref 1 8), (.d (.int .i64 x5)), (.d (.int .i64 x6)), (.d (.int .i64 x7)), (.d (.int .i64 x8)), (.gref 4 6), (.gref 7 1)]), (.gro 8 x9), .dead, .dead, (.gro 6 x10), .dead, .dead, (.gro 1 x11), .dead, .dead] := by
  unfold C57 at h
  refine ACall.enter hT (fn := Try.f57) Try.func57 rfl (by decide) (by simp [Try.f57]) rfl rfl rfl rfl (lb rfl) ?_
  refine AWp.seq ?_
  refine AWp.rg hT hA {} (by cbv) (lb rfl) ?_
  refine nT ?_
  refine AWp.seq ?_
  obtain ⟨v35, hvK36, h⟩ := bindS h
  refine AWp.cutW (fun τ => τ = { env := [(4, (.d (.bool v35)))], heap := [(.cells [(.d (.list 1 x2)), (.d (.list 1 x3)), (.d (.list 1 x4)), (.gref 1 8), (.d (.int .i64 x5)), (.d (.int .i64 x6)), (.d (.int .i64 x7)), (.d (.int .i64 x8)), (.gref 4 6), (.gref 7 1)]), (.gro 8 x9), .dead, .dead, (.gro 6 x10), .dead, .dead, (.gro 1 x11), .dead, .dead], n := 32 }) ?_ ?_
  · skip
    obtain ⟨_, e12, hvK36⟩ := bindS hvK36
    have f14 := ckI e12
    obtain ⟨_, e13, hvK36⟩ := bindS hvK36
    have f15 := ckI e13
    obtain ⟨⟨a16, a17, a18, a19, a20, a21, a22, a23⟩, e24, hvK36⟩ := bindS hvK36
    have f25 := gcI e24
    rcases tf a18 with c26 | c26
    · replace hvK36 := cT c26 hvK36
      refine AWp.rd hT hA { tk := [31] } rfl (by (repeat (cbv; simp only [c26, f14, f15, f25])); first | done | cbv) (by kernel_rfl) (lb rfl) ?_
      cases soI hvK36
      exact oWi ⟨_, (Wk.ren [some 0, some 1, some 2, some 3, some 4, some 5, some 6, some 7, some 8, some 9] [4] rfl (by first | (cbv; done) | ((repeat (cbv; simp only [c26])); first | done | cbv))), rfl⟩
    · replace hvK36 := cF c26 hvK36
      obtain ⟨_, e27, hvK36⟩ := bindS hvK36
      have f29 := ckI e27
      obtain ⟨_, e28, hvK36⟩ := bindS hvK36
      have f30 := ckI e28
      obtain ⟨a31, e32, hvK36⟩ := bindS hvK36
      obtain ⟨f33, f34⟩ := gtI e32
      refine AWp.rd hT hA { tk := [31] } rfl (by (repeat (cbv; simp only [c26, f14, f15, f25, f29, f30, f33, f34])); first | done | cbv) (by kernel_rfl) (lb rfl) ?_
      cases soI hvK36
      exact oWi ⟨_, (Wk.ren [some 0, some 1, some 2, some 3, some 4, some 5, some 6, some 7, some 8, some 9] [4] rfl (by first | (cbv; done) | ((repeat (cbv; simp only [c26])); first | done | cbv))), rfl⟩
  · rintro _ rfl
    refine nT ?_
    refine AWp.ret ?_
    cases soI h
    exact ⟨rfl, rfl, rfl, lb rfl, _, rfl⟩

theorem C78w {A : Ar} (hA : A = Ar.std) {x1 : Int} {x2 : List D} {x3 : List D} {x4 : List D} {x5 : Int} {x6 : Int} {x7 : Int} {x8 : Int} {x9 : List D} {x10 : List D} {x11 : List D} {v342 : List D} {v343 : List D} {v344 : List D} {v345 : Int} {v346 : Int} {v347 : Int} {v348 : Int} {v349 : List D} {v350 : List D} {v351 : List D} (h : C78 A x1 x2 x3 x4 x5 x6 x7 x8 x9 x10 x11 = some (v342, v343, v344, v345, v346, v347, v348, v349, v350, v351)) : ACall Try.prog 78 [(.ptr 0 0), (.d (.int .i64 x1))] [(.cells [(.d (.list 1 x2)), (.d (.list 1 x3)), (.d (.list 1 x4)), (.gref 1 8), (.d (.int .i64 x5)), (.d (.int .i64 x6)), (.d (.int .i64 x7)), (.d (.int .i64 x8)), (.gref 4 6), (.gref 7 1)]), (.gro 8 x9), .dead, .dead, (.gro 6 x10), .dead, .dead, (.gro 1 x11), .dead, .dead] (.tuple []) [(.cells [(.d (.list 1 v342)), (.d (.list 1 v343)), (.d (.list 1 v344)), (.gref 10 8), (.d (.int .i64 v345)), (.d (.int .i64 v346)), (.d (.int .i64 v347)), (.d (.int .i64 v348)), (.gref 13 6), (.gref 16 1)]), .dead, .dead, .dead, .dead, .dead, .dead, .dead, .dead, .dead, (.gro 8 v349), .dead, .dead, (.gro 6 v350), .dead, .dead, (.gro 1 v351), .dead, .dead] := by
  unfold C78 at h
  refine ACall.enter hT (fn := Try.f78) Try.func78 rfl (by decide) (by simp [Try.f78]) rfl rfl rfl rfl (lb rfl) ?_
  refine AWp.seq ?_
  obtain ⟨_, e12, h⟩ := bindS h
  have f14 := ckI e12
  obtain ⟨_, e13, h⟩ := bindS h
  have f15 := ckI e13
  refine AWp.rg hT hA {} (by (repeat (cbv; simp only [f14, f15])); first | done | cbv) (lb rfl) ?_
  refine nT ?_
  refine AWp.seq ?_
  refine AWp.rg hT hA { tk := [20] } (by cbv) (lb rfl) ?_
  refine nT ?_
  refine AWp.seq ?_
  refine AWp.rg hT hA {} (by cbv) (lb rfl) ?_
  refine nT ?_
  refine AWp.seq ?_
  refine AWp.seq ?_
  obtain ⟨⟨a16, a17, a18, a19, a20, a21, a22, a23⟩, e24, h⟩ := bindS h
  have f25 := gcI e24
  refine AWp.rg hT hA {} (by (repeat (cbv; simp only [f25])); first | done | cbv) (lb rfl) ?_
  refine nT ?_
  obtain ⟨⟨v53, v54, v55⟩, hvK56, h⟩ := bindS h
  refine AWp.cutW (fun τ => τ = { env := [(0, (.ptr 0 0)), (4, (.eptr 10 8 x1 0)), (5, (.d (.int .i64 x5)))], heap := [(.cells [(.d (.list 1 x2)), (.d (.list 1 x3)), (.d (.list 1 x4)), (.gref 10 8), (.d (.int .i64 (A.wrp .i64 (A.zadd x5 1)))), (.d (.int .i64 x6)), (.d (.int .i64 x7)), (.d (.int .i64 x8)), (.gref 13 6), (.gref 16 1)]), .dead, .dead, .dead, .dead, .dead, .dead, .dead, .dead, .dead, (.gro 8 v53), .dead, .dead, (.gro 6 v54), .dead, .dead, (.gro 1 v55), .dead, .dead], n := 285 }) ?_ ?_
  · skip
    rcases tf a18 with c26 | c26
    · replace hvK56 := cT c26 hvK56
      refine AWp.cdF rfl (by first | rfl | simp only [c26, Bool.not_true, Bool.not_false, cond_true, cond_false]) ?_
      refine AWp.skip ?_
      cases soI hvK56
      exact oWi ⟨_, (Wk.ren [some 0, none, none, none, none, none, none, none, none, none, some 1, some 2, some 3, some 4, some 5, some 6, some 7, some 8, some 9] [0, 4, 5] rfl (by first | (cbv; done) | ((repeat (cbv; simp only [c26])); first | done | cbv))), rfl⟩
    · replace hvK56 := cF c26 hvK56
      refine AWp.cdT rfl (by first | rfl | simp only [c26, Bool.not_true, Bool.not_false, cond_true, cond_false]) ?_
      refine AWp.seq ?_
      refine AWp.rd hT hA { tk := [45] } rfl (by (repeat (cbv; simp only [c26, f25])); first | done | cbv) (by kernel_rfl) (lb rfl) ?_
      refine nT ?_
      refine AWp.seq ?_
      obtain ⟨a27, e28, hvK56⟩ := bindS hvK56
      obtain ⟨f29, f30⟩ := gtI e28
      obtain ⟨⟨a31, a32, a33, a34, a35, a36, a37, a38⟩, e39, hvK56⟩ := bindS hvK56
      have f40 := gcI e39
      obtain ⟨a41, e42, hvK56⟩ := bindS hvK56
      obtain ⟨f43, f44⟩ := gtI e42
      obtain ⟨l45, e46, hvK56⟩ := bindS hvK56
      obtain ⟨f47, f48⟩ := apI e46
      refine AWp.rd hT hA { tk := [51, 72] } rfl (by (repeat (cbv; simp only [c26, f29, f30, f40, f43, f44, f47, f48])); first | done | cbv) (by kernel_rfl) (lb rfl) ?_
      refine nT ?_
      refine AWp.weak (Wk.settle 0 8 rfl rfl rfl) ?_
      obtain ⟨l49, e50, hvK56⟩ := bindS hvK56
      obtain ⟨f51, f52⟩ := apI e50
      refine AWp.rg hT hA { tk := [79, 81] } (by (repeat (cbv; simp only [c26, f51, f52])); first | done | cbv) (lb rfl) ?_
      cases soI hvK56
      exact oWi ⟨_, (Wk.trans (Wk.settle 0 9 rfl rfl rfl) (Wk.ren [some 0, none, none, none, some 4, some 5, some 6, some 7, some 8, some 9, some 1, some 2, some 3, some 10, some 11, some 12, some 13, some 14, some 15] [0, 4, 5] rfl (by first | (cbv; done) | ((repeat (cbv; simp only [c26])); first | done | cbv)))), rfl⟩
  · rintro _ rfl
    refine nT ?_
    refine AWp.seq ?_
    obtain ⟨⟨a57, a58, a59, a60, a61, a62, a63, a64⟩, e65, h⟩ := bindS h
    have f66 := gcI e65
    obtain ⟨_, e67, h⟩ := bindS h
    have f69 := ckI e67
    obtain ⟨_, e68, h⟩ := bindS h
    have f70 := ckI e68
    obtain ⟨⟨a71, a72, a73, a74, a75, a76⟩, e77, h⟩ := bindS h
    have f78 := gcI e77
    refine AWp.rd hT hA {} rfl (by (repeat (cbv; simp only [f66, f69, f70, f78])); first | done | cbv) (by kernel_rfl) (lb rfl) ?_
    refine nT ?_
    refine AWp.seq ?_
    refine AWp.rg hT hA {} (by (repeat (cbv; simp only [f66])); first | done | cbv) (lb rfl) ?_
    refine nT ?_
    refine AWp.seq ?_
    obtain ⟨a79, e80, h⟩ := bindS h
    obtain ⟨f81, f82⟩ := gtI e80
    obtain ⟨⟨a83, a84, a85, a86⟩, e87, h⟩ := bindS h
    obtain ⟨f88, f89⟩ := gtI e87
    refine AWp.rg hT hA { tk := [108] } (by (repeat (cbv; simp only [f81, f82, f88, f89])); first | done | cbv) (lb rfl) ?_
    refine nT ?_
    refine AWp.seq ?_
    refine AWp.rg hT hA {} (by (repeat (cbv; simp only [f66])); first | done | cbv) (lb rfl) ?_
    refine nT ?_
    refine AWp.seq ?_
    refine AWp.rg hT hA {} (by cbv) (lb rfl) ?_
    refine nT ?_
    refine AWp.seq ?_
    refine AWp.seq ?_
    refine AWp.rg hT hA {} (by cbv) (lb rfl) ?_
    refine nT ?_
    refine AWp.block ?_
    refine AWp.seq ?_
    refine AWp.rg hT hA {} (by cbv) (lb rfl) ?_
    refine nT ?_
    obtain ⟨⟨v309, v310, v311, v312, v313⟩, hvK314, h⟩ := bindS h
    refine AWp.cutW (fun τ => τ = { env := [(0, (.ptr 0 0)), (4, (.eptr 10 8 x1 0)), (5, (.d (.int .i64 x5))), (6, (.d (.int .i64 a73))), (7, (.d (.int .i64 a58)))], heap := [(.cells [(.d (.list 1 x2)), (.d (.list 1 x3)), (.d (.list 1 x4)), (.gref 10 8), (.d (.int .i64 (A.wrp .i64 (A.zadd x5 1)))), (.d (.int .i64 v309)), (.d (.int .i64 v310)), (.d (.int .i64 v311)), (.gref 13 6), (.gref 16 1)]), .dead, .dead, .dead, .dead, .dead, .dead, .dead, .dead, .dead, (.gro 8 v312), .dead, .dead, (.gro 6 v313), .dead, .dead, (.gro 1 v55), .dead, .dead], n := 285 }) ?_ ?_
    · skip
      rcases tf (A.zeq a83 1) with c90 | c90
      · replace hvK314 := cT c90 hvK314
        refine AWp.cdT rfl (by first | rfl | simp only [c90, Bool.not_true, Bool.not_false, cond_true, cond_false]) ?_
        obtain ⟨_, e91, hvK314⟩ := bindS hvK314
        have f93 := ckI e91
        obtain ⟨_, e92, hvK314⟩ := bindS hvK314
        have f94 := ckI e92
        obtain ⟨a95, e96, hvK314⟩ := bindS hvK314
        have f97 := gcI e96
        obtain ⟨_, e98, hvK314⟩ := bindS hvK314
        have f100 := ckI e98
        obtain ⟨_, e99, hvK314⟩ := bindS hvK314
        have f101 := ckI e99
        obtain ⟨⟨a102, a103, a104, a105, a106, a107, a108, a109⟩, e110, hvK314⟩ := bindS hvK314
        have f111 := gcI e110
        refine AWp.rd hT hA { tk := [130], vx := [129, 132] } rfl (by (repeat (cbv; simp only [c90, f93, f94, f97, f100, f101, f111])); first | done | cbv) (by kernel_rfl) (lb rfl) ?_
        cases soI hvK314
        exact oWi ⟨_, (Wk.ren [some 0, some 1, some 2, some 3, some 4, some 5, some 6, some 7, some 8, some 9, some 10, some 11, some 12, some 13, some 14, some 15, some 16, some 17, some 18] [0, 4, 5, 6, 7] rfl (by first | (cbv; done) | ((repeat (cbv; simp only [c90])); first | done | cbv))), rfl⟩
      · replace hvK314 := cF c90 hvK314
        refine AWp.cdF rfl (by first | rfl | simp only [c90, Bool.not_true, Bool.not_false, cond_true, cond_false]) ?_
        refine AWp.seq ?_
        refine AWp.rg hT hA {} (by (repeat (cbv; simp only [c90])); first | done | cbv) (lb rfl) ?_
        refine nT ?_
        obtain ⟨⟨v303, v304, v305, v306, v307⟩, hvK308, hvK314⟩ := bindS hvK314
        refine AWp.cutW (fun τ => τ = { env := [(0, (.ptr 0 0)), (4, (.eptr 10 8 x1 0)), (5, (.d (.int .i64 x5))), (6, (.d (.int .i64 a73))), (7, (.d (.int .i64 a58)))], heap := [(.cells [(.d (.list 1 x2)), (.d (.list 1 x3)), (.d (.list 1 x4)), (.gref 10 8), (.d (.int .i64 (A.wrp .i64 (A.zadd x5 1)))), (.d (.int .i64 v303)), (.d (.int .i64 v304)), (.d (.int .i64 v305)), (.gref 13 6), (.gref 16 1)]), .dead, .dead, .dead, .dead, .dead, .dead, .dead, .dead, .dead, (.gro 8 v306), .dead, .dead, (.gro 6 v307), .dead, .dead, (.gro 1 v55), .dead, .dead], n := 285 }) ?_ ?_
        · skip
          rcases tf (A.zeq a83 2) with c112 | c112
          · replace hvK308 := cT c112 hvK308
            refine AWp.cdT rfl (by first | rfl | simp only [c90, c112, Bool.not_true, Bool.not_false, cond_true, cond_false]) ?_
            obtain ⟨_, e113, hvK308⟩ := bindS hvK308
            have f115 := ckI e113
            obtain ⟨_, e114, hvK308⟩ := bindS hvK308
            have f116 := ckI e114
            obtain ⟨⟨a120, a121, a122, a123, a124, a125, a126, a127⟩, e128, hvK308⟩ := bindS hvK308
            have f129 := gcI e128
            obtain ⟨a117, e118, hvK308⟩ := bindS hvK308
            have f119 := gcI e118
            obtain ⟨_, e130, hvK308⟩ := bindS hvK308
            have f132 := ckI e130
            obtain ⟨_, e131, hvK308⟩ := bindS hvK308
            have f133 := ckI e131
            refine AWp.rd hT hA { tk := [143], vx := [142, 146] } rfl (by (repeat (cbv; simp only [c90, c112, f115, f116, f129, f119, f132, f133])); first | done | cbv) (by kernel_rfl) (lb rfl) ?_
            cases soI hvK308
            exact oWi ⟨_, (Wk.ren [some 0, some 1, some 2, some 3, some 4, some 5, some 6, some 7, some 8, some 9, some 10, some 11, some 12, some 13, some 14, some 15, some 16, some 17, some 18] [0, 4, 5, 6, 7] rfl (by first | (cbv; done) | ((repeat (cbv; simp only [c90, c112])); first | done | cbv))), rfl⟩
          · replace hvK308 := cF c112 hvK308
            refine AWp.cdF rfl (by first | rfl | simp only [c90, c112, Bool.not_true, Bool.not_false, cond_true, cond_false]) ?_
            refine AWp.seq ?_
            refine AWp.rg hT hA {} (by (repeat (cbv; simp only [c90, c112])); first | done | cbv) (lb rfl) ?_
            refine nT ?_
            obtain ⟨⟨v297, v298, v299, v300, v301⟩, hvK302, hvK308⟩ := bindS hvK308
            refine AWp.cutW (fun τ => τ = { env := [(0, (.ptr 0 0)), (4, (.eptr 10 8 x1 0)), (5, (.d (.int .i64 x5))), (6, (.d (.int .i64 a73))), (7, (.d (.int .i64 a58)))], heap := [(.cells [(.d (.list 1 x2)), (.d (.list 1 x3)), (.d (.list 1 x4)), (.gref 10 8), (.d (.int .i64 (A.wrp .i64 (A.zadd x5 1)))), (.d (.int .i64 v297)), (.d (.int .i64 v298)), (.d (.int .i64 v299)), (.gref 13 6), (.gref 16 1)]), .dead, .dead, .dead, .dead, .dead, .dead, .dead, .dead, .dead, (.gro 8 v300), .dead, .dead, (.gro 6 v301), .dead, .dead, (.gro 1 v55), .dead, .dead], n := 285 }) ?_ ?_
            · skip
              rcases tf (A.zeq a83 3) with c134 | c134
              · replace hvK302 := cT c134 hvK302
                refine AWp.cdT rfl (by first | rfl | simp only [c90, c112, c134, Bool.not_true, Bool.not_false, cond_true, cond_false]) ?_
                refine AWp.seq ?_
                refine AWp.rg hT hA {} (by (repeat (cbv; simp only [c90, c112, c134])); first | done | cbv) (lb rfl) ?_
                refine nT ?_
                refine AWp.seq ?_
                refine AWp.seq ?_
                obtain ⟨_, e135, hvK302⟩ := bindS hvK302
                have f137 := ckI e135
                obtain ⟨_, e136, hvK302⟩ := bindS hvK302
                have f138 := ckI e136
                obtain ⟨a139, e140, hvK302⟩ := bindS hvK302
                have f141 := gcI e140
                obtain ⟨_, e142, hvK302⟩ := bindS hvK302
                have f144 := ckI e142
                obtain ⟨_, e143, hvK302⟩ := bindS hvK302
                have f145 := ckI e143
                obtain ⟨⟨a149, a150, a151, a152, a153, a154, a155, a156⟩, e157, hvK302⟩ := bindS hvK302
                have f158 := gcI e157
                obtain ⟨a146, e147, hvK302⟩ := bindS hvK302
                have f148 := gcI e147
                refine AWp.rd hT hA { vx := [154, 160] } rfl (by (repeat (cbv; simp only [c90, c112, c134, f137, f138, f141, f144, f145, f158, f148])); first | done | cbv) (by kernel_rfl) (lb rfl) ?_
                refine nT ?_
                obtain ⟨⟨v171, v172, v173, v174⟩, hvK175, hvK302⟩ := bindS hvK302
                refine AWp.cutW (fun τ => τ = { env := [(0, (.ptr 0 0)), (4, (.eptr 10 8 x1 0)), (5, (.d (.int .i64 x5))), (6, (.d (.int .i64 a73))), (7, (.d (.int .i64 a58))), (9, (.eptr 10 8 x1 4)), (10, (.d (.int .i64 v171)))], heap := [(.cells [(.d (.list 1 x2)), (.d (.list 1 x3)), (.d (.list 1 x4)), (.gref 10 8), (.d (.int .i64 (A.wrp .i64 (A.zadd x5 1)))), (.d (.int .i64 v172)), (.d (.int .i64 v173)), (.d (.int .i64 v174)), (.gref 13 6), (.gref 16 1)]), .dead, .dead, .dead, .dead, .dead, .dead, .dead, .dead, .dead, (.gro 8 (A.lset v53 (A.nat x1) (.agg [(.int .i64 a57), (.int .i64 (A.wrp .i64 (A.zadd a58 1))), (.bool a59), (.int .i64 a60), (.int .i64 a61), (.int .i64 a62), (.int .i64 a63), (.int .i64 a64)]))), .dead, .dead, (.gro 6 v54), .dead, .dead, (.gro 1 v55), .dead, .dead], n := 285 }) ?_ ?_
                · skip
                  rcases tf (A.zeq a139 a146) with c159 | c159
                  · replace hvK175 := cT c159 hvK175
                    refine AWp.cdT rfl (by first | rfl | simp only [c90, c112, c134, c159, Bool.not_true, Bool.not_false, cond_true, cond_false]) ?_
                    refine AWp.seq ?_
                    obtain ⟨_, e160, hvK175⟩ := bindS hvK175
                    have f162 := ckI e160
                    obtain ⟨_, e161, hvK175⟩ := bindS hvK175
                    have f163 := ckI e161
                    obtain ⟨a164, e165, hvK175⟩ := bindS hvK175
                    have f166 := gcI e165
                    obtain ⟨_, e167, hvK175⟩ := bindS hvK175
                    have f169 := ckI e167
                    obtain ⟨_, e168, hvK175⟩ := bindS hvK175
                    have f170 := ckI e168
                    refine AWp.rd hT hA { tk := [171], vx := [170, 174] } rfl (by (repeat (cbv; simp only [c90, c112, c134, c159, f162, f163, f158, f166, f169, f170])); first | done | cbv) (by kernel_rfl) (lb rfl) ?_
                    refine nT ?_
                    refine AWp.rg hT hA {} (by (repeat (cbv; simp only [c90, c112, c134, c159])); first | done | cbv) (lb rfl) ?_
                    cases soI hvK175
                    exact oWi ⟨_, (Wk.ren [some 0, some 1, some 2, some 3, some 4, some 5, some 6, some 7, some 8, some 9, some 10, some 11, some 12, some 13, some 14, some 15, some 16, some 17, some 18] [0, 4, 5, 6, 7, 9, 10] rfl (by first | (cbv; done) | ((repeat (cbv; simp only [c90, c112, c134, c159])); first | done | cbv))), rfl⟩
                  · replace hvK175 := cF c159 hvK175
                    refine AWp.cdF rfl (by first | rfl | simp only [c90, c112, c134, c159, Bool.not_true, Bool.not_false, cond_true, cond_false]) ?_
                    refine AWp.skip ?_
                    cases soI hvK175
                    exact oWi ⟨_, (Wk.ren [some 0, some 1, some 2, some 3, some 4, some 5, some 6, some 7, some 8, some 9, some 10, some 11, some 12, some 13, some 14, some 15, some 16, some 17, some 18] [0, 4, 5, 6, 7, 9, 10] rfl (by first | (cbv; done) | ((repeat (cbv; simp only [c90, c112, c134, c159])); first | done | cbv))), rfl⟩
                · rintro _ rfl
                  refine nT ?_
                  refine AWp.rg hT hA { tk := [10, 176] } (by (repeat (cbv; simp only [f158])); first | done | cbv) (lb rfl) ?_
                  cases soI hvK302
                  exact oWi ⟨_, (Wk.ren [some 0, some 1, some 2, some 3, some 4, some 5, some 6, some 7, some 8, some 9, some 10, some 11, some 12, some 13, some 14, some 15, some 16, some 17, some 18] [0, 4, 5, 6, 7] rfl (by cbv)), rfl⟩
              · replace hvK302 := cF c134 hvK302
                refine AWp.cdF rfl (by first | rfl | simp only [c90, c112, c134, Bool.not_true, Bool.not_false, cond_true, cond_false]) ?_
                refine AWp.seq ?_
                refine AWp.rg hT hA {} (by (repeat (cbv; simp only [c90, c112, c134])); first | done | cbv) (lb rfl) ?_
                refine nT ?_
                obtain ⟨⟨v294, v295⟩, hvK296, hvK302⟩ := bindS hvK302
                refine AWp.cutW (fun τ => τ = { env := [(0, (.ptr 0 0)), (4, (.eptr 10 8 x1 0)), (5, (.d (.int .i64 x5))), (6, (.d (.int .i64 a73))), (7, (.d (.int .i64 a58)))], heap := [(.cells [(.d (.list 1 x2)), (.d (.list 1 x3)), (.d (.list 1 x4)), (.gref 10 8), (.d (.int .i64 (A.wrp .i64 (A.zadd x5 1)))), (.d (.int .i64 x6)), (.d (.int .i64 x7)), (.d (.int .i64 x8)), (.gref 13 6), (.gref 16 1)]), .dead, .dead, .dead, .dead, .dead, .dead, .dead, .dead, .dead, (.gro 8 v294), .dead, .dead, (.gro 6 v295), .dead, .dead, (.gro 1 v55), .dead, .dead], n := 285 }) ?_ ?_
                · skip
                  rcases tf (A.zeq a83 4) with c176 | c176
                  · replace hvK296 := cT c176 hvK296
                    refine AWp.cdT rfl (by first | rfl | simp only [c90, c112, c134, c176, Bool.not_true, Bool.not_false, cond_true, cond_false]) ?_
                    obtain ⟨_, e177, hvK296⟩ := bindS hvK296
                    have f179 := ckI e177
                    obtain ⟨_, e178, hvK296⟩ := bindS hvK296
                    have f180 := ckI e178
                    obtain ⟨⟨a181, a182, a183, a184, a185, a186, a187, a188⟩, e189, hvK296⟩ := bindS hvK296
                    have f190 := gcI e189
                    refine AWp.rd hT hA { tk := [185], vx := [187] } rfl (by (repeat (cbv; simp only [c90, c112, c134, c176, f179, f180, f190])); first | done | cbv) (by kernel_rfl) (lb rfl) ?_
                    cases soI hvK296
                    exact oWi ⟨_, (Wk.ren [some 0, some 1, some 2, some 3, some 4, some 5, some 6, some 7, some 8, some 9, some 10, some 11, some 12, some 13, some 14, some 15, some 16, some 17, some 18] [0, 4, 5, 6, 7] rfl (by first | (cbv; done) | ((repeat (cbv; simp only [c90, c112, c134, c176])); first | done | cbv))), rfl⟩
                  · replace hvK296 := cF c176 hvK296
                    refine AWp.cdF rfl (by first | rfl | simp only [c90, c112, c134, c176, Bool.not_true, Bool.not_false, cond_true, cond_false]) ?_
                    refine AWp.seq ?_
                    refine AWp.rg hT hA {} (by (repeat (cbv; simp only [c90, c112, c134, c176])); first | done | cbv) (lb rfl) ?_
                    refine nT ?_
                    obtain ⟨⟨v291, v292⟩, hvK293, hvK296⟩ := bindS hvK296
                    refine AWp.cutW (fun τ => τ = { env := [(0, (.ptr 0 0)), (4, (.eptr 10 8 x1 0)), (5, (.d (.int .i64 x5))), (6, (.d (.int .i64 a73))), (7, (.d (.int .i64 a58)))], heap := [(.cells [(.d (.list 1 x2)), (.d (.list 1 x3)), (.d (.list 1 x4)), (.gref 10 8), (.d (.int .i64 (A.wrp .i64 (A.zadd x5 1)))), (.d (.int .i64 x6)), (.d (.int .i64 x7)), (.d (.int .i64 x8)), (.gref 13 6), (.gref 16 1)]), .dead, .dead, .dead, .dead, .dead, .dead, .dead, .dead, .dead, (.gro 8 v291), .dead, .dead, (.gro 6 v292), .dead, .dead, (.gro 1 v55), .dead, .dead], n := 285 }) ?_ ?_
                    · skip
                      rcases tf (A.zeq a83 5) with c191 | c191
                      · replace hvK293 := cT c191 hvK293
                        refine AWp.cdT rfl (by first | rfl | simp only [c90, c112, c134, c176, c191, Bool.not_true, Bool.not_false, cond_true, cond_false]) ?_
                        obtain ⟨_, e192, hvK293⟩ := bindS hvK293
                        have f194 := ckI e192
                        obtain ⟨_, e193, hvK293⟩ := bindS hvK293
                        have f195 := ckI e193
                        obtain ⟨⟨a199, a200, a201, a202, a203, a204, a205, a206⟩, e207, hvK293⟩ := bindS hvK293
                        have f208 := gcI e207
                        obtain ⟨a196, e197, hvK293⟩ := bindS hvK293
                        have f198 := gcI e197
                        obtain ⟨_, e209, hvK293⟩ := bindS hvK293
                        have f211 := ckI e209
                        obtain ⟨_, e210, hvK293⟩ := bindS hvK293
                        have f212 := ckI e210
                        obtain ⟨a213, e214, hvK293⟩ := bindS hvK293
                        have f215 := gcI e214
                        obtain ⟨_, e216, hvK293⟩ := bindS hvK293
                        have f217 := nkI e216
                        obtain ⟨_, e218, hvK293⟩ := bindS hvK293
                        have f220 := ckI e218
                        obtain ⟨_, e219, hvK293⟩ := bindS hvK293
                        have f221 := ckI e219
                        refine AWp.rd hT hA { tk := [206], vx := [197, 203, 208] } rfl (by (repeat (cbv; simp only [c90, c112, c134, c176, c191, f194, f195, f208, f198, f211, f212, f215, f217, f220, f221])); first | done | cbv) (by kernel_rfl) (lb rfl) ?_
                        cases soI hvK293
                        exact oWi ⟨_, (Wk.ren [some 0, some 1, some 2, some 3, some 4, some 5, some 6, some 7, some 8, some 9, some 10, some 11, some 12, some 13, some 14, some 15, some 16, some 17, some 18] [0, 4, 5, 6, 7] rfl (by first | (cbv; done) | ((repeat (cbv; simp only [c90, c112, c134, c176, c191])); first | done | cbv))), rfl⟩
                      · replace hvK293 := cF c191 hvK293
                        refine AWp.cdF rfl (by first | rfl | simp only [c90, c112, c134, c176, c191, Bool.not_true, Bool.not_false, cond_true, cond_false]) ?_
                        refine AWp.seq ?_
                        refine AWp.rg hT hA {} (by (repeat (cbv; simp only [c90, c112, c134, c176, c191])); first | done | cbv) (lb rfl) ?_
                        refine nT ?_
                        obtain ⟨⟨v288, v289⟩, hvK290, hvK293⟩ := bindS hvK293
                        refine AWp.cutW (fun τ => τ = { env := [(0, (.ptr 0 0)), (4, (.eptr 10 8 x1 0)), (5, (.d (.int .i64 x5))), (6, (.d (.int .i64 a73))), (7, (.d (.int .i64 a58)))], heap := [(.cells [(.d (.list 1 x2)), (.d (.list 1 x3)), (.d (.list 1 x4)), (.gref 10 8), (.d (.int .i64 (A.wrp .i64 (A.zadd x5 1)))), (.d (.int .i64 x6)), (.d (.int .i64 x7)), (.d (.int .i64 x8)), (.gref 13 6), (.gref 16 1)]), .dead, .dead, .dead, .dead, .dead, .dead, .dead, .dead, .dead, (.gro 8 v288), .dead, .dead, (.gro 6 v289), .dead, .dead, (.gro 1 v55), .dead, .dead], n := 285 }) ?_ ?_
                        · skip
                          rcases tf (A.zeq a83 6) with c222 | c222
                          · replace hvK290 := cT c222 hvK290
                            refine AWp.cdT rfl (by first | rfl | simp only [c90, c112, c134, c176, c191, c222, Bool.not_true, Bool.not_false, cond_true, cond_false]) ?_
                            refine AWp.seq ?_
                            obtain ⟨_, e223, hvK290⟩ := bindS hvK290
                            have f225 := ckI e223
                            obtain ⟨_, e224, hvK290⟩ := bindS hvK290
                            have f226 := ckI e224
                            obtain ⟨⟨a230, a231, a232, a233, a234, a235, a236, a237⟩, e238, hvK290⟩ := bindS hvK290
                            have f239 := gcI e238
                            obtain ⟨a227, e228, hvK290⟩ := bindS hvK290
                            have f229 := gcI e228
                            refine AWp.rd hT hA { vx := [215] } rfl (by (repeat (cbv; simp only [c90, c112, c134, c176, c191, c222, f225, f226, f239, f229])); first | done | cbv) (by kernel_rfl) (lb rfl) ?_
                            refine nT ?_
                            obtain ⟨v241, hvK242, hvK290⟩ := bindS hvK290
                            refine AWp.cutW (fun τ => τ = { env := [(0, (.ptr 0 0)), (4, (.eptr 10 8 x1 0)), (5, (.d (.int .i64 x5))), (6, (.d (.int .i64 a73))), (7, (.d (.int .i64 a58)))], heap := [(.cells [(.d (.list 1 x2)), (.d (.list 1 x3)), (.d (.list 1 x4)), (.gref 10 8), (.d (.int .i64 (A.wrp .i64 (A.zadd x5 1)))), (.d (.int .i64 x6)), (.d (.int .i64 x7)), (.d (.int .i64 x8)), (.gref 13 6), (.gref 16 1)]), .dead, .dead, .dead, .dead, .dead, .dead, .dead, .dead, .dead, (.gro 8 v241), .dead, .dead, (.gro 6 v54), .dead, .dead, (.gro 1 v55), .dead, .dead], n := 285 }) ?_ ?_
                            · skip
                              rcases tf (A.zeq a227 0) with c240 | c240
                              · replace hvK242 := cT c240 hvK242
                                refine AWp.cdT rfl (by first | rfl | simp only [c90, c112, c134, c176, c191, c222, c240, Bool.not_true, Bool.not_false, cond_true, cond_false]) ?_
                                refine AWp.rg hT hA {} (by (repeat (cbv; simp only [c90, c112, c134, c176, c191, c222, c240, f239])); first | done | cbv) (lb rfl) ?_
                                cases soI hvK242
                                exact oWi ⟨_, (Wk.ren [some 0, some 1, some 2, some 3, some 4, some 5, some 6, some 7, some 8, some 9, some 10, some 11, some 12, some 13, some 14, some 15, some 16, some 17, some 18] [0, 4, 5, 6, 7] rfl (by first | (cbv; done) | ((repeat (cbv; simp only [c90, c112, c134, c176, c191, c222, c240])); first | done | cbv))), rfl⟩
                              · replace hvK242 := cF c240 hvK242
                                refine AWp.cdF rfl (by first | rfl | simp only [c90, c112, c134, c176, c191, c222, c240, Bool.not_true, Bool.not_false, cond_true, cond_false]) ?_
                                refine AWp.skip ?_
                                cases soI hvK242
                                exact oWi ⟨_, (Wk.ren [some 0, some 1, some 2, some 3, some 4, some 5, some 6, some 7, some 8, some 9, some 10, some 11, some 12, some 13, some 14, some 15, some 16, some 17, some 18] [0, 4, 5, 6, 7] rfl (by first | (cbv; done) | ((repeat (cbv; simp only [c90, c112, c134, c176, c191, c222, c240])); first | done | cbv))), rfl⟩
                            · rintro _ rfl
                              cases soI hvK290
                              exact oWi ⟨_, (Wk.ren [some 0, some 1, some 2, some 3, some 4, some 5, some 6, some 7, some 8, some 9, some 10, some 11, some 12, some 13, some 14, some 15, some 16, some 17, some 18] [0, 4, 5, 6, 7] rfl (by cbv)), rfl⟩
                          · replace hvK290 := cF c222 hvK290
                            refine AWp.cdF rfl (by first | rfl | simp only [c90, c112, c134, c176, c191, c222, Bool.not_true, Bool.not_false, cond_true, cond_false]) ?_
                            refine AWp.seq ?_
                            refine AWp.rg hT hA {} (by (repeat (cbv; simp only [c90, c112, c134, c176, c191, c222])); first | done | cbv) (lb rfl) ?_
                            refine nT ?_
                            obtain ⟨⟨v285, v286⟩, hvK287, hvK290⟩ := bindS hvK290
                            refine AWp.cutW (fun τ => τ = { env := [(0, (.ptr 0 0)), (4, (.eptr 10 8 x1 0)), (5, (.d (.int .i64 x5))), (6, (.d (.int .i64 a73))), (7, (.d (.int .i64 a58)))], heap := [(.cells [(.d (.list 1 x2)), (.d (.list 1 x3)), (.d (.list 1 x4)), (.gref 10 8), (.d (.int .i64 (A.wrp .i64 (A.zadd x5 1)))), (.d (.int .i64 x6)), (.d (.int .i64 x7)), (.d (.int .i64 x8)), (.gref 13 6), (.gref 16 1)]), .dead, .dead, .dead, .dead, .dead, .dead, .dead, .dead, .dead, (.gro 8 v285), .dead, .dead, (.gro 6 v286), .dead, .dead, (.gro 1 v55), .dead, .dead], n := 285 }) ?_ ?_
                            · skip
                              rcases tf (A.zeq a83 7) with c243 | c243
                              · replace hvK287 := cT c243 hvK287
                                refine AWp.cdT rfl (by first | rfl | simp only [c90, c112, c134, c176, c191, c222, c243, Bool.not_true, Bool.not_false, cond_true, cond_false]) ?_
                                refine AWp.seq ?_
                                obtain ⟨⟨a244, a245, a246, a247, a248, a249, a250, a251⟩, e252, hvK287⟩ := bindS hvK287
                                have f253 := gcI e252
                                obtain ⟨_, e254, hvK287⟩ := bindS hvK287
                                have f256 := ckI e254
                                obtain ⟨_, e255, hvK287⟩ := bindS hvK287
                                have f257 := ckI e255
                                obtain ⟨⟨a258, a259, a260, a261, a262, a263⟩, e264, hvK287⟩ := bindS hvK287
                                have f265 := gcI e264
                                refine AWp.rd hT hA {} rfl (by (repeat (cbv; simp only [c90, c112, c134, c176, c191, c222, c243, f253, f256, f257, f265])); first | done | cbv) (by kernel_rfl) (lb rfl) ?_
                                refine nT ?_
                                refine AWp.seq ?_
                                obtain ⟨_, e266, hvK287⟩ := bindS hvK287
                                have f268 := ckI e266
                                obtain ⟨_, e267, hvK287⟩ := bindS hvK287
                                have f269 := ckI e267
                                obtain ⟨a270, e271, hvK287⟩ := bindS hvK287
                                have f272 := gcI e271
                                obtain ⟨_, e273, hvK287⟩ := bindS hvK287
                                have f275 := ckI e273
                                obtain ⟨_, e274, hvK287⟩ := bindS hvK287
                                have f276 := ckI e274
                                obtain ⟨⟨a277, a278, a279, a280, a281, a282⟩, e283, hvK287⟩ := bindS hvK287
                                have f284 := gcI e283
                                refine AWp.rd hT hA { vx := [250] } rfl (by (repeat (cbv; simp only [c90, c112, c134, c176, c191, c222, c243, f253, f268, f269, f272, f275, f276, f284])); first | done | cbv) (by kernel_rfl) (lb rfl) ?_
                                refine nT ?_
                                refine AWp.rg hT hA {} (by (repeat (cbv; simp only [c90, c112, c134, c176, c191, c222, c243, f253])); first | done | cbv) (lb rfl) ?_
                                cases soI hvK287
                                exact oWi ⟨_, (Wk.ren [some 0, some 1, some 2, some 3, some 4, some 5, some 6, some 7, some 8, some 9, some 10, some 11, some 12, some 13, some 14, some 15, some 16, some 17, some 18] [0, 4, 5, 6, 7] rfl (by first | (cbv; done) | ((repeat (cbv; simp only [c90, c112, c134, c176, c191, c222, c243])); first | done | cbv))), rfl⟩
                              · replace hvK287 := cF c243 hvK287
                                refine AWp.cdF rfl (by first | rfl | simp only [c90, c112, c134, c176, c191, c222, c243, Bool.not_true, Bool.not_false, cond_true, cond_false]) ?_
                                refine AWp.skip ?_
                                cases soI hvK287
                                exact oWi ⟨_, (Wk.ren [some 0, some 1, some 2, some 3, some 4, some 5, some 6, some 7, some 8, some 9, some 10, some 11, some 12, some 13, some 14, some 15, some 16, some 17, some 18] [0, 4, 5, 6, 7] rfl (by first | (cbv; done) | ((repeat (cbv; simp only [c90, c112, c134, c176, c191, c222, c243])); first | done | cbv))), rfl⟩
                            · rintro _ rfl
                              cases soI hvK290
                              exact oWi ⟨_, (Wk.ren [some 0, some 1, some 2, some 3, some 4, some 5, some 6, some 7, some 8, some 9, some 10, some 11, some 12, some 13, some 14, some 15, some 16, some 17, some 18] [0, 4, 5, 6, 7] rfl (by cbv)), rfl⟩
                        · rintro _ rfl
                          cases soI hvK293
                          exact oWi ⟨_, (Wk.ren [some 0, some 1, some 2, some 3, some 4, some 5, some 6, some 7, some 8, some 9, some 10, some 11, some 12, some 13, some 14, some 15, some 16, some 17, some 18] [0, 4, 5, 6, 7] rfl (by cbv)), rfl⟩
                    · rintro _ rfl
                      cases soI hvK296
                      exact oWi ⟨_, (Wk.ren [some 0, some 1, some 2, some 3, some 4, some 5, some 6, some 7, some 8, some 9, some 10, some 11, some 12, some 13, some 14, some 15, some 16, some 17, some 18] [0, 4, 5, 6, 7] rfl (by cbv)), rfl⟩
                · rintro _ rfl
                  cases soI hvK302
                  exact oWi ⟨_, (Wk.ren [some 0, some 1, some 2, some 3, some 4, some 5, some 6, some 7, some 8, some 9, some 10, some 11, some 12, some 13, some 14, some 15, some 16, some 17, some 18] [0, 4, 5, 6, 7] rfl (by cbv)), rfl⟩
            · rintro _ rfl
              cases soI hvK308
              exact oWi ⟨_, (Wk.ren [some 0, some 1, some 2, some 3, some 4, some 5, some 6, some 7, some 8, some 9, some 10, some 11, some 12, some 13, some 14, some 15, some 16, some 17, some 18] [0, 4, 5, 6, 7] rfl (by cbv)), rfl⟩
        · rintro _ rfl
          cases soI hvK314
          exact oWi ⟨_, (Wk.ren [some 0, some 1, some 2, some 3, some 4, some 5, some 6, some 7, some 8, some 9, some 10, some 11, some 12, some 13, some 14, some 15, some 16, some 17, some 18] [0, 4, 5, 6, 7] rfl (by cbv)), rfl⟩
    · rintro _ rfl
      refine nB ?_
      refine nT ?_
      refine AWp.seq ?_
      obtain ⟨v320, hvK321, h⟩ := bindS h
      refine AWp.cutW (fun τ => τ = { env := [(0, (.ptr 0 0)), (4, (.eptr 10 8 x1 0)), (5, (.d (.int .i64 x5))), (274, (.d (.bool v320)))], heap := [(.cells [(.d (.list 1 x2)), (.d (.list 1 x3)), (.d (.list 1 x4)), (.gref 10 8), (.d (.int .i64 (A.wrp .i64 (A.zadd x5 1)))), (.d (.int .i64 v309)), (.d (.int .i64 v310)), (.d (.int .i64 v311)), (.gref 13 6), (.gref 16 1)]), .dead, .dead, .dead, .dead, .dead, .dead, .dead, .dead, .dead, (.gro 8 v312), .dead, .dead, (.gro 6 v313), .dead, .dead, (.gro 1 v55), .dead, .dead], n := 285 }) ?_ ?_
      · skip
        rcases tf (A.zlt a73 (A.len x4)) with c315 | c315
        · replace hvK321 := cT c315 hvK321
          obtain ⟨a316, e317, hvK321⟩ := bindS hvK321
          obtain ⟨f318, f319⟩ := gtI e317
          refine AWp.rg hT hA {} (by (repeat (cbv; simp only [c315, f318, f319])); first | done | cbv) (lb rfl) ?_
          cases soI hvK321
          exact oWi ⟨_, (Wk.ren [some 0, some 1, some 2, some 3, some 4, some 5, some 6, some 7, some 8, some 9, some 10, some 11, some 12, some 13, some 14, some 15, some 16, some 17, some 18] [0, 4, 5, 274] rfl (by first | (cbv; done) | ((repeat (cbv; simp only [c315])); first | done | cbv))), rfl⟩
        · replace hvK321 := cF c315 hvK321
          refine AWp.rg hT hA {} (by (repeat (cbv; simp only [c315])); first | done | cbv) (lb rfl) ?_
          cases soI hvK321
          exact oWi ⟨_, (Wk.ren [some 0, some 1, some 2, some 3, some 4, some 5, some 6, some 7, some 8, some 9, some 10, some 11, some 12, some 13, some 14, some 15, some 16, some 17, some 18] [0, 4, 5, 274] rfl (by first | (cbv; done) | ((repeat (cbv; simp only [c315])); first | done | cbv))), rfl⟩
      · rintro _ rfl
        refine nT ?_
        obtain ⟨v340, hvK341, h⟩ := bindS h
        refine AWp.cutW (fun τ => τ = { env := [], heap := [(.cells [(.d (.list 1 x2)), (.d (.list 1 x3)), (.d (.list 1 x4)), (.gref 10 8), (.d (.int .i64 (A.wrp .i64 (A.zadd x5 1)))), (.d (.int .i64 v309)), (.d (.int .i64 v310)), (.d (.int .i64 v311)), (.gref 13 6), (.gref 16 1)]), .dead, .dead, .dead, .dead, .dead, .dead, .dead, .dead, .dead, (.gro 8 v312), .dead, .dead, (.gro 6 v313), .dead, .dead, (.gro 1 v340), .dead, .dead], n := 285 }) ?_ ?_
        · skip
          rcases tf v320 with c322 | c322
          · replace hvK341 := cT c322 hvK341
            refine AWp.cdT rfl (by first | rfl | simp only [c322, Bool.not_true, Bool.not_false, cond_true, cond_false]) ?_
            obtain ⟨⟨a323, a324, a325, a326, a327, a328, a329, a330⟩, e331, hvK341⟩ := bindS hvK341
            have f332 := gcI e331
            obtain ⟨_, e333, hvK341⟩ := bindS hvK341
            have f335 := ckI e333
            obtain ⟨_, e334, hvK341⟩ := bindS hvK341
            have f336 := ckI e334
            obtain ⟨a337, e338, hvK341⟩ := bindS hvK341
            have f339 := gcI e338
            refine AWp.rd hT hA { tk := [5, 283] } rfl (by (repeat (cbv; simp only [c322, f332, f335, f336, f339])); first | done | cbv) (by kernel_rfl) (lb rfl) ?_
            cases soI hvK341
            exact oWi ⟨_, (Wk.ren [some 0, some 1, some 2, some 3, some 4, some 5, some 6, some 7, some 8, some 9, some 10, some 11, some 12, some 13, some 14, some 15, some 16, some 17, some 18] [] rfl (by first | (cbv; done) | ((repeat (cbv; simp only [c322])); first | done | cbv))), rfl⟩
          · replace hvK341 := cF c322 hvK341
            refine AWp.cdF rfl (by first | rfl | simp only [c322, Bool.not_true, Bool.not_false, cond_true, cond_false]) ?_
            refine AWp.skip ?_
            cases soI hvK341
            exact oWi ⟨_, (Wk.ren [some 0, some 1, some 2, some 3, some 4, some 5, some 6, some 7, some 8, some 9, some 10, some 11, some 12, some 13, some 14, some 15, some 16, some 17, some 18] [] rfl (by first | (cbv; done) | ((repeat (cbv; simp only [c322])); first | done | cbv))), rfl⟩
        · rintro _ rfl
          cases soI h
          exact ⟨rfl, rfl, rfl, lb rfl, _, rfl⟩

theorem C106wa {A : Ar} (hA : A = Ar.std) {x1 : List D} {x2 : List D} {x3 : List D} {x4 : List D} (h : C106 A x1 x2 x3 x4 = some (.inl ())) : ACall Try.prog 106 [(.d (.list 1 x1)), (.d (.list 1 x2)), (.d (.list 1 x3)), (.d (.list 1 x4))] [] .nilptr [] := by
  unfold C106 at h
  refine ACall.enter hT (fn := Try.f106) Try.func106 rfl (by decide) (by simp [Try.f106]) rfl rfl rfl rfl (lb rfl) ?_
  refine AWp.seq ?_
  refine AWp.rg hT hA {} (by cbv) (lb rfl) ?_
  refine nT ?_
  refine AWp.seq ?_
  refine AWp.seq ?_
  refine AWp.rg hT hA {} (by cbv) (lb rfl) ?_
  refine nT ?_
  rcases tf (A.zlt 12 (A.len x3)) with c5 | c5
  · replace h := cT c5 h
    refine AWp.cdT rfl (by first | rfl | simp only [c5, Bool.not_true, Bool.not_false, cond_true, cond_false]) ?_
    refine AWp.seq ?_
    refine AWp.rg hT hA {} (by (repeat (cbv; simp only [c5])); first | done | cbv) (lb rfl) ?_
    refine nT ?_
    refine AWp.ret ?_
    refine rT ?_
    cases soI h
    exact ⟨rfl, rfl, rfl, lb rfl, _, rfl⟩
  · replace h := cF c5 h
    refine AWp.cdF rfl (by first | rfl | simp only [c5, Bool.not_true, Bool.not_false, cond_true, cond_false]) ?_
    refine AWp.skip ?_
    refine nT ?_
    refine AWp.seq ?_
    refine AWp.region ?_
    obtain ⟨⟨r7, r8, r9, r10⟩, e6, h⟩ := bindS h
    refine AOps.cc hT hA { tk := [17] } (by (repeat (cbv; simp only [c5])); first | done | cbv) (lb rfl) (C76w hA e6) rfl (.inl rfl) rfl rfl rfl (lb rfl) rfl rfl ?_
    refine AOps.cd hT hA { tk := [17] } (by (repeat (cbv; simp only [c5])); first | done | cbv) (lb rfl) ?_
    refine nT ?_
    refine AWp.seq ?_
    refine AWp.seq ?_
    refine AWp.rg hT hA {} (by (repeat (cbv; simp only [c5])); first | done | cbv) (lb rfl) ?_
    refine nT ?_
    refine AWp.block ?_
    obtain ⟨xK88, hxK88, K88, hK88, hkK88⟩ := bindK h
    refine AWp.cutXW 0 (fun τ => ∃ v78 v79 v80 v81 v82 v83 v84 v85 v86 v87, K88 (.inl (v78, v79, v80, v81, v82, v83, v84, v85, v86, v87)) = some (.inl ()) ∧ τ = { env := [(9, (.ptr 0 0))], heap := [(.cells [(.d (.list 1 v78)), (.d (.list 1 v79)), (.d (.list 1 v80)), (.gref 1 8), (.d (.int .i64 v81)), (.d (.int .i64 v82)), (.d (.int .i64 v83)), (.d (.int .i64 v84)), (.gref 4 6), (.gref 7 1)]), (.gro 8 v85), .dead, .dead, (.gro 6 v86), .dead, .dead, (.gro 1 v87), .dead, .dead], n := 49 }) ?_ ?_
    · skip
      refine AWp.iterW hxK88 (fun (v39, v40, v41, v42, v43, v44, v45, v46, v47, v48, v49) => { env := [(1, (.d (.list 1 x2))), (2, (.d (.list 1 x3))), (9, (.ptr 0 0)), (10, (.d (.int .i64 v39)))], heap := [(.cells [(.d (.list 1 v40)), (.d (.list 1 v41)), (.d (.list 1 v42)), (.gref 1 8), (.d (.int .i64 v43)), (.d (.int .i64 v44)), (.d (.int .i64 v45)), (.d (.int .i64 v46)), (.gref 4 6), (.gref 7 1)]), (.gro 8 v47), .dead, .dead, (.gro 6 v48), .dead, .dead, (.gro 1 v49), .dead, .dead], n := 49 }) ⟨_, Wk.ren [some 0, some 1, some 2, some 3, some 4, some 5, some 6, some 7, some 8, some 9] [1, 2, 9, 10] rfl (by first | (cbv; done) | ((repeat (cbv; simp only [c5])); first | done | cbv)), rfl⟩ ?_
      rintro ⟨v39, v40, v41, v42, v43, v44, v45, v46, v47, v48, v49⟩ eK88 hsK88
      dsimp only [C106L0] at hsK88
      refine AWp.seq ?_
      refine AWp.seq ?_
      refine AWp.rg hT hA {} (by cbv) (lb rfl) ?_
      refine nT ?_
      rcases tf (A.zlt v39 (A.len x3)) with c50 | c50
      · replace hsK88 := cT c50 hsK88
        refine AWp.cdT rfl (by first | rfl | simp only [c50, Bool.not_true, Bool.not_false, cond_true, cond_false]) ?_
        refine AWp.skip ?_
        refine nT ?_
        refine AWp.seq ?_
        refine AWp.block ?_
        refine AWp.seq ?_
        refine AWp.seq ?_
        obtain ⟨v60, hvK61, hsK88⟩ := bindS hsK88
        refine AWp.cutW (fun τ => τ = { env := [(1, (.d (.list 1 x2))), (2, (.d (.list 1 x3))), (9, (.ptr 0 0)), (10, (.d (.int .i64 v39))), (41, (.d (.bool v60)))], heap := [(.cells [(.d (.list 1 v40)), (.d (.list 1 v41)), (.d (.list 1 v42)), (.gref 1 8), (.d (.int .i64 v43)), (.d (.int .i64 v44)), (.d (.int .i64 v45)), (.d (.int .i64 v46)), (.gref 4 6), (.gref 7 1)]), (.gro 8 v47), .dead, .dead, (.gro 6 v48), .dead, .dead, (.gro 1 v49), .dead, .dead], n := 49 }) ?_ ?_
        · skip
          refine AWp.region ?_
          obtain ⟨a51, e52, hvK61⟩ := bindS hvK61
          obtain ⟨f53, f54⟩ := gtI e52
          obtain ⟨r56, e55, hvK61⟩ := bindS hvK61
          refine AOps.cc hT hA {} (by (repeat (cbv; simp only [c50, f53, f54])); first | done | cbv) (lb rfl) (C51w hA e55) rfl (.inr rfl) rfl rfl rfl (lb rfl) rfl rfl ?_
          rcases tf r56 with c57 | c57
          · replace hvK61 := cT c57 hvK61
            obtain ⟨r59, e58, hvK61⟩ := bindS hvK61
            refine AOps.cc hT hA {} (by (repeat (cbv; simp only [c50, c57, f53, f54])); first | done | cbv) (lb rfl) (C57w hA e58) rfl (.inl rfl) rfl rfl rfl (lb rfl) rfl rfl ?_
            refine AOps.cd hT hA {} (by (repeat (cbv; simp only [c50, c57, f53, f54])); first | done | cbv) (lb rfl) ?_
            cases soI hvK61
            exact oWi ⟨_, (Wk.ren [some 0, some 1, some 2, some 3, some 4, some 5, some 6, some 7, some 8, some 9] [1, 2, 9, 10, 41] rfl (by first | (cbv; done) | ((repeat (cbv; simp only [c50, c57])); first | done | cbv))), rfl⟩
          · replace hvK61 := cF c57 hvK61
            refine AOps.cd hT hA {} (by (repeat (cbv; simp only [c50, c57, f53, f54])); first | done | cbv) (lb rfl) ?_
            cases soI hvK61
            exact oWi ⟨_, (Wk.ren [some 0, some 1, some 2, some 3, some 4, some 5, some 6, some 7, some 8, some 9] [1, 2, 9, 10, 41] rfl (by first | (cbv; done) | ((repeat (cbv; simp only [c50, c57])); first | done | cbv))), rfl⟩
        · rintro _ rfl
          refine nT ?_
          rcases tf v60 with c62 | c62
          · replace hsK88 := cT c62 hsK88
            refine AWp.cdT rfl (by first | rfl | simp only [c62, Bool.not_true, Bool.not_false, cond_true, cond_false]) ?_
            refine AWp.seq ?_
            refine AWp.rg hT hA {} (by (repeat (cbv; simp only [c62])); first | done | cbv) (lb rfl) ?_
            refine nT ?_
            refine AWp.weak (Wk.ren [] [8] rfl rfl) ?_
            refine AWp.ret ?_
            refine rT ?_
            refine rB ?_
            refine rT ?_
            refine rT ?_
            refine exL hsK88 fun hx => ?_
            subst hx
            refine oxWR ?_
            replace hkK88 := (eR (hK88 _ hkK88))
            refine rB ?_
            refine rT ?_
            cases soI hkK88
            exact ⟨rfl, rfl, rfl, lb rfl, _, rfl⟩
          · replace hsK88 := cF c62 hsK88
            refine AWp.cdF rfl (by first | rfl | simp only [c62, Bool.not_true, Bool.not_false, cond_true, cond_false]) ?_
            refine AWp.skip ?_
            refine nT ?_
            refine AWp.region ?_
            obtain ⟨a63, e64, hsK88⟩ := bindS hsK88
            obtain ⟨f65, f66⟩ := gtI e64
            obtain ⟨⟨r68, r69, r70, r71, r72, r73, r74, r75, r76, r77⟩, e67, hsK88⟩ := bindS hsK88
            refine AOps.cc hT hA {} (by (repeat (cbv; simp only [c62, f65, f66])); first | done | cbv) (lb rfl) (C78w hA e67) rfl (.inl rfl) rfl rfl rfl (lb rfl) rfl rfl ?_
            refine AOps.cd hT hA {} (by (repeat (cbv; simp only [c62, f65, f66])); first | done | cbv) (lb rfl) ?_
            refine nB ?_
            refine nT ?_
            refine AWp.rg hT hA {} (by (repeat (cbv; simp only [c62])); first | done | cbv) (lb rfl) ?_
            exact nT ⟨_, (soI hsK88).symm, _, (Wk.ren [some 0, some 10, some 11, some 12, some 13, some 14, some 15, some 16, some 17, some 18] [1, 2, 9, 10] rfl (by first | (cbv; done) | ((repeat (cbv; simp only [c62])); first | done | cbv))), rfl⟩
      · replace hsK88 := cF c50 hsK88
        refine AWp.cdF rfl (by first | rfl | simp only [c50, Bool.not_true, Bool.not_false, cond_true, cond_false]) ?_
        refine AWp.exit ?_
        refine xT ?_
        refine xT ?_
        refine exL hsK88 fun hx => ?_
        subst hx
        exact oxWI ⟨_, (Wk.ren [some 0, some 1, some 2, some 3, some 4, some 5, some 6, some 7, some 8, some 9] [9] rfl (by first | (cbv; done) | ((repeat (cbv; simp only [c50])); first | done | cbv))), _, _, _, _, _, _, _, _, _, _, hkK88, rfl⟩
    · rintro _ ⟨v78, v79, v80, v81, v82, v83, v84, v85, v86, v87, hkK88, rfl⟩
      have h := (eL (hK88 _ hkK88))
      refine xB ?_
      refine nT ?_
      refine AWp.seq ?_
      refine AWp.rg hT hA { tk := [9, 48] } (by cbv) (lb rfl) ?_
      refine nT ?_
      refine AWp.ret ?_
      cases soI h

theorem C106wb {A : Ar} (hA : A = Ar.std) {x1 : List D} {x2 : List D} {x3 : List D} {x4 : List D} {v89 : List D} {v90 : List D} {v91 : List D} {v92 : Int} {v93 : Int} {v94 : Int} {v95 : Int} {v96 : List D} {v97 : List D} {v98 : List D} (h : C106 A x1 x2 x3 x4 = some (.inr (v89, v90, v91, v92, v93, v94, v95, v96, v97, v98))) : ACall Try.prog 106 [(.d (.list 1 x1)), (.d (.list 1 x2)), (.d (.list 1 x3)), (.d (.list 1 x4))] [] (.ptr 0 0) [(.cells [(.d (.list 1 v89)), (.d (.list 1 v90)), (.d (.list 1 v91)), (.gref 1 8), (.d (.int .i64 v92)), (.d (.int .i64 v93)), (.d (.int .i64 v94)), (.d (.int .i64 v95)), (.gref 4 6), (.gref 7 1)]), (.gro 8 v96), .dead, .dead, (.gro 6 v97), .dead, .dead, (.gro 1 v98), .dead, .dead] := by
  unfold C106 at h
  refine ACall.enter hT (fn := Try.f106) Try.func106 rfl (by decide) (by simp [Try.f106]) rfl rfl rfl rfl (lb rfl) ?_
  refine AWp.seq ?_
  refine AWp.rg hT hA {} (by cbv) (lb rfl) ?_
  refine nT ?_
  refine AWp.seq ?_
  refine AWp.seq ?_
  refine AWp.rg hT hA {} (by cbv) (lb rfl) ?_
  refine nT ?_
  rcases tf (A.zlt 12 (A.len x3)) with c5 | c5
  · replace h := cT c5 h
    refine AWp.cdT rfl (by first | rfl | simp only [c5, Bool.not_true, Bool.not_false, cond_true, cond_false]) ?_
    refine AWp.seq ?_
    refine AWp.rg hT hA {} (by (repeat (cbv; simp only [c5])); first | done | cbv) (lb rfl) ?_
    refine nT ?_
    refine AWp.ret ?_
    refine rT ?_
    cases soI h
  · replace h := cF c5 h
    refine AWp.cdF rfl (by first | rfl | simp only [c5, Bool.not_true, Bool.not_false, cond_true, cond_false]) ?_
    refine AWp.skip ?_
    refine nT ?_
    refine AWp.seq ?_
    refine AWp.region ?_
    obtain ⟨⟨r7, r8, r9, r10⟩, e6, h⟩ := bindS h
    refine AOps.cc hT hA { tk := [17] } (by (repeat (cbv; simp only [c5])); first | done | cbv) (lb rfl) (C76w hA e6) rfl (.inl rfl) rfl rfl rfl (lb rfl) rfl rfl ?_
    refine AOps.cd hT hA { tk := [17] } (by (repeat (cbv; simp only [c5])); first | done | cbv) (lb rfl) ?_
    refine nT ?_
    refine AWp.seq ?_
    refine AWp.seq ?_
    refine AWp.rg hT hA {} (by (repeat (cbv; simp only [c5])); first | done | cbv) (lb rfl) ?_
    refine nT ?_
    refine AWp.block ?_
    obtain ⟨xK88, hxK88, K88, hK88, hkK88⟩ := bindK h
    refine AWp.cutXW 0 (fun τ => ∃ v78 v79 v80 v81 v82 v83 v84 v85 v86 v87, K88 (.inl (v78, v79, v80, v81, v82, v83, v84, v85, v86, v87)) = some (.inr (v89, v90, v91, v92, v93, v94, v95, v96, v97, v98)) ∧ τ = { env := [(9, (.ptr 0 0))], heap := [(.cells [(.d (.list 1 v78)), (.d (.list 1 v79)), (.d (.list 1 v80)), (.gref 1 8), (.d (.int .i64 v81)), (.d (.int .i64 v82)), (.d (.int .i64 v83)), (.d (.int .i64 v84)), (.gref 4 6), (.gref 7 1)]), (.gro 8 v85), .dead, .dead, (.gro 6 v86), .dead, .dead, (.gro 1 v87), .dead, .dead], n := 49 }) ?_ ?_
    · skip
      refine AWp.iterW hxK88 (fun (v39, v40, v41, v42, v43, v44, v45, v46, v47, v48, v49) => { env := [(1, (.d (.list 1 x2))), (2, (.d (.list 1 x3))), (9, (.ptr 0 0)), (10, (.d (.int .i64 v39)))], heap := [(.cells [(.d (.list 1 v40)), (.d (.list 1 v41)), (.d (.list 1 v42)), (.gref 1 8), (.d (.int .i64 v43)), (.d (.int .i64 v44)), (.d (.int .i64 v45)), (.d (.int .i64 v46)), (.gref 4 6), (.gref 7 1)]), (.gro 8 v47), .dead, .dead, (.gro 6 v48), .dead, .dead, (.gro 1 v49), .dead, .dead], n := 49 }) ⟨_, Wk.ren [some 0, some 1, some 2, some 3, some 4, some 5, some 6, some 7, some 8, some 9] [1, 2, 9, 10] rfl (by first | (cbv; done) | ((repeat (cbv; simp only [c5])); first | done | cbv)), rfl⟩ ?_
      rintro ⟨v39, v40, v41, v42, v43, v44, v45, v46, v47, v48, v49⟩ eK88 hsK88
      dsimp only [C106L0] at hsK88
      refine AWp.seq ?_
      refine AWp.seq ?_
      refine AWp.rg hT hA {} (by cbv) (lb rfl) ?_
      refine nT ?_
      rcases tf (A.zlt v39 (A.len x3)) with c50 | c50
      · replace hsK88 := cT c50 hsK88
        refine AWp.cdT rfl (by first | rfl | simp only [c50, Bool.not_true, Bool.not_false, cond_true, cond_false]) ?_
        refine AWp.skip ?_
        refine nT ?_
        refine AWp.seq ?_
        refine AWp.block ?_
        refine AWp.seq ?_
        refine AWp.seq ?_
        obtain ⟨v60, hvK61, hsK88⟩ := bindS hsK88
        refine AWp.cutW (fun τ => τ = { env := [(1, (.d (.list 1 x2))), (2, (.d (.list 1 x3))), (9, (.ptr 0 0)), (10, (.d (.int .i64 v39))), (41, (.d (.bool v60)))], heap := [(.cells [(.d (.list 1 v40)), (.d (.list 1 v41)), (.d (.list 1 v42)), (.gref 1 8), (.d (.int .i64 v43)), (.d (.int .i64 v44)), (.d (.int .i64 v45)), (.d (.int .i64 v46)), (.gref 4 6), (.gref 7 1)]), (.gro 8 v47), .dead, .dead, (.gro 6 v48), .dead, .dead, (.gro 1 v49), .dead, .dead], n := 49 }) ?_ ?_
        · skip
          refine AWp.region ?_
          obtain ⟨a51, e52, hvK61⟩ := bindS hvK61
          obtain ⟨f53, f54⟩ := gtI e52
          obtain ⟨r56, e55, hvK61⟩ := bindS hvK61
          refine AOps.cc hT hA {} (by (repeat (cbv; simp only [c50, f53, f54])); first | done | cbv) (lb rfl) (C51w hA e55) rfl (.inr rfl) rfl rfl rfl (lb rfl) rfl rfl ?_
          rcases tf r56 with c57 | c57
          · replace hvK61 := cT c57 hvK61
            obtain ⟨r59, e58, hvK61⟩ := bindS hvK61
            refine AOps.cc hT hA {} (by (repeat (cbv; simp only [c50, c57, f53, f54])); first | done | cbv) (lb rfl) (C57w hA e58) rfl (.inl rfl) rfl rfl rfl (lb rfl) rfl rfl ?_
            refine AOps.cd hT hA {} (by (repeat (cbv; simp only [c50, c57, f53, f54])); first | done | cbv) (lb rfl) ?_
            cases soI hvK61
            exact oWi ⟨_, (Wk.ren [some 0, some 1, some 2, some 3, some 4, some 5, some 6, some 7, some 8, some 9] [1, 2, 9, 10, 41] rfl (by first | (cbv; done) | ((repeat (cbv; simp only [c50, c57])); first | done | cbv))), rfl⟩
          · replace hvK61 := cF c57 hvK61
            refine AOps.cd hT hA {} (by (repeat (cbv; simp only [c50, c57, f53, f54])); first | done | cbv) (lb rfl) ?_
            cases soI hvK61
            exact oWi ⟨_, (Wk.ren [some 0, some 1, some 2, some 3, some 4, some 5, some 6, some 7, some 8, some 9] [1, 2, 9, 10, 41] rfl (by first | (cbv; done) | ((repeat (cbv; simp only [c50, c57])); first | done | cbv))), rfl⟩
        · rintro _ rfl
          refine nT ?_
          rcases tf v60 with c62 | c62
          · replace hsK88 := cT c62 hsK88
            refine AWp.cdT rfl (by first | rfl | simp only [c62, Bool.not_true, Bool.not_false, cond_true, cond_false]) ?_
            refine AWp.seq ?_
            refine AWp.rg hT hA {} (by (repeat (cbv; simp only [c62])); first | done | cbv) (lb rfl) ?_
            refine nT ?_
            refine AWp.weak (Wk.ren [] [8] rfl rfl) ?_
            refine AWp.ret ?_
            refine rT ?_
            refine rB ?_
            refine rT ?_
            refine rT ?_
            refine exL hsK88 fun hx => ?_
            subst hx
            refine oxWR ?_
            replace hkK88 := (eR (hK88 _ hkK88))
            refine rB ?_
            refine rT ?_
            cases soI hkK88
          · replace hsK88 := cF c62 hsK88
            refine AWp.cdF rfl (by first | rfl | simp only [c62, Bool.not_true, Bool.not_false, cond_true, cond_false]) ?_
            refine AWp.skip ?_
            refine nT ?_
            refine AWp.region ?_
            obtain ⟨a63, e64, hsK88⟩ := bindS hsK88
            obtain ⟨f65, f66⟩ := gtI e64
            obtain ⟨⟨r68, r69, r70, r71, r72, r73, r74, r75, r76, r77⟩, e67, hsK88⟩ := bindS hsK88
            refine AOps.cc hT hA {} (by (repeat (cbv; simp only [c62, f65, f66])); first | done | cbv) (lb rfl) (C78w hA e67) rfl (.inl rfl) rfl rfl rfl (lb rfl) rfl rfl ?_
            refine AOps.cd hT hA {} (by (repeat (cbv; simp only [c62, f65, f66])); first | done | cbv) (lb rfl) ?_
            refine nB ?_
            refine nT ?_
            refine AWp.rg hT hA {} (by (repeat (cbv; simp only [c62])); first | done | cbv) (lb rfl) ?_
            exact nT ⟨_, (soI hsK88).symm, _, (Wk.ren [some 0, some 10, some 11, some 12, some 13, some 14, some 15, some 16, some 17, some 18] [1, 2, 9, 10] rfl (by first | (cbv; done) | ((repeat (cbv; simp only [c62])); first | done | cbv))), rfl⟩
      · replace hsK88 := cF c50 hsK88
        refine AWp.cdF rfl (by first | rfl | simp only [c50, Bool.not_true, Bool.not_false, cond_true, cond_false]) ?_
        refine AWp.exit ?_
        refine xT ?_
        refine xT ?_
        refine exL hsK88 fun hx => ?_
        subst hx
        exact oxWI ⟨_, (Wk.ren [some 0, some 1, some 2, some 3, some 4, some 5, some 6, some 7, some 8, some 9] [9] rfl (by first | (cbv; done) | ((repeat (cbv; simp only [c50])); first | done | cbv))), _, _, _, _, _, _, _, _, _, _, hkK88, rfl⟩
    · rintro _ ⟨v78, v79, v80, v81, v82, v83, v84, v85, v86, v87, hkK88, rfl⟩
      have h := (eL (hK88 _ hkK88))
      refine xB ?_
      refine nT ?_
      refine AWp.seq ?_
      refine AWp.rg hT hA { tk := [9, 48] } (by cbv) (lb rfl) ?_
      refine nT ?_
      refine AWp.ret ?_
      cases soI h
      exact ⟨rfl, rfl, rfl, lb rfl, _, rfl⟩

theorem C46wa {A : Ar} (hA : A = Ar.std) {x1 : List D} {x2 : List D} {x3 : List D} {v19 : Int} (h : C46 A x1 x2 x3 = some (.inl v19)) : ACall Try.prog 46 [(.d (.list 1 x1)), (.d (.list 1 x2)), (.d (.list 1 x3))] [] (.tuple [.nilptr, (.d (.int .i64 v19))]) [] := by
  unfold C46 at h
  refine ACall.enter hT (fn := Try.f46) Try.func46 rfl (by decide) (by simp [Try.f46]) rfl rfl rfl rfl (lb rfl) ?_
  refine AWp.seq ?_
  refine AWp.rg hT hA {} (by cbv) (lb rfl) ?_
  refine nT ?_
  refine AWp.seq ?_
  refine AWp.region ?_
  obtain ⟨r5, e4, h⟩ := bindS h
  refine AOps.cc hT hA {} (by cbv) (lb rfl) (C105w hA e4) rfl (.inl rfl) rfl rfl rfl (lb rfl) rfl rfl ?_
  refine AOps.cd hT hA {} (by cbv) (lb rfl) ?_
  refine nT ?_
  refine AWp.seq ?_
  refine AWp.seq ?_
  refine AWp.rg hT hA {} (by cbv) (lb rfl) ?_
  refine nT ?_
  rcases tf (A.zeq r5 0) with c6 | c6
  · replace h := cT c6 h
    refine AWp.cdF rfl (by first | rfl | simp only [c6, Bool.not_true, Bool.not_false, cond_true, cond_false]) ?_
    refine AWp.skip ?_
    refine nT ?_
    refine AWp.seq ?_
    refine AWp.region ?_
    obtain ⟨q18, e7, h⟩ := bindS h
    rcases q18 with _ | ⟨r8, r9, r10, r11, r12, r13, r14, r15, r16, r17⟩
    · replace h := (eL h)
      refine AOps.cc hT hA {} (by (repeat (cbv; simp only [c6])); first | done | cbv) (lb rfl) (C106wa hA e7) rfl (.inl rfl) rfl rfl rfl (lb rfl) rfl rfl ?_
      refine AOps.cd hT hA {} (by (repeat (cbv; simp only [c6])); first | done | cbv) (lb rfl) ?_
      refine nT ?_
      refine AWp.seq ?_
      refine AWp.seq ?_
      refine AWp.rg hT hA {} (by (repeat (cbv; simp only [c6])); first | done | cbv) (lb rfl) ?_
      refine nT ?_
      refine AWp.cdT rfl (by first | rfl | simp only [c6, Bool.not_true, Bool.not_false, cond_true, cond_false]) ?_
      refine AWp.seq ?_
      refine AWp.rg hT hA {} (by (repeat (cbv; simp only [c6])); first | done | cbv) (lb rfl) ?_
      refine nT ?_
      refine AWp.ret ?_
      refine rT ?_
      cases soI h
      exact ⟨rfl, rfl, rfl, lb rfl, _, rfl⟩
    · replace h := (eR h)
      refine AOps.cc hT hA {} (by (repeat (cbv; simp only [c6])); first | done | cbv) (lb rfl) (C106wb hA e7) rfl (.inl rfl) rfl rfl rfl (lb rfl) rfl rfl ?_
      refine AOps.cd hT hA {} (by (repeat (cbv; simp only [c6])); first | done | cbv) (lb rfl) ?_
      refine nT ?_
      refine AWp.seq ?_
      refine AWp.seq ?_
      refine AWp.rg hT hA {} (by (repeat (cbv; simp only [c6])); first | done | cbv) (lb rfl) ?_
      refine nT ?_
      refine AWp.cdF rfl (by first | rfl | simp only [c6, Bool.not_true, Bool.not_false, cond_true, cond_false]) ?_
      refine AWp.skip ?_
      refine nT ?_
      refine AWp.seq ?_
      refine AWp.rg hT hA {} (by (repeat (cbv; simp only [c6])); first | done | cbv) (lb rfl) ?_
      refine nT ?_
      refine AWp.ret ?_
      cases soI h
  · replace h := cF c6 h
    refine AWp.cdT rfl (by first | rfl | simp only [c6, Bool.not_true, Bool.not_false, cond_true, cond_false]) ?_
    refine AWp.seq ?_
    refine AWp.rg hT hA {} (by (repeat (cbv; simp only [c6])); first | done | cbv) (lb rfl) ?_
    refine nT ?_
    refine AWp.ret ?_
    refine rT ?_
    cases soI h
    exact ⟨rfl, rfl, rfl, lb rfl, _, rfl⟩

theorem C46wb {A : Ar} (hA : A = Ar.std) {x1 : List D} {x2 : List D} {x3 : List D} {v20 : List D} {v21 : List D} {v22 : List D} {v23 : Int} {v24 : Int} {v25 : Int} {v26 : Int} {v27 : List D} {v28 : List D} {v29 : List D} (h : C46 A x1 x2 x3 = some (.inr (v20, v21, v22, v23, v24, v25, v26, v27, v28, v29))) : ACall Try.prog 46 [(.d (.list 1 x1)), (.d (.list 1 x2)), (.d (.list 1 x3))] [] (.tuple [(.ptr 0 0), (.d (.int .i64 0))]) [(.cells [(.d (.list 1 v20)), (.d (.list 1 v21)), (.d (.list 1 v22)), (.gref 1 8), (.d (.int .i64 v23)), (.d (.int .i64 v24)), (.d (.int .i64 v25)), (.d (.int .i64 v26)), (.gref 4 6), (.gref 7 1)]), (.gro 8 v27), .dead, .dead, (.gro 6 v28), .dead, .dead, (.gro 1 v29), .dead, .dead] := by
  unfold C46 at h
  refine ACall.enter hT (fn := Try.f46) Try.func46 rfl (by decide) (by simp [Try.f46]) rfl rfl rfl rfl (lb rfl) ?_
  refine AWp.seq ?_
  refine AWp.rg hT hA {} (by cbv) (lb rfl) ?_
  refine nT ?_
  refine AWp.seq ?_
  refine AWp.region ?_
  obtain ⟨r5, e4, h⟩ := bindS h
  refine AOps.cc hT hA {} (by cbv) (lb rfl) (C105w hA e4) rfl (.inl rfl) rfl rfl rfl (lb rfl) rfl rfl ?_
  refine AOps.cd hT hA {} (by cbv) (lb rfl) ?_
  refine nT ?_
  refine AWp.seq ?_
  refine AWp.seq ?_
  refine AWp.rg hT hA {} (by cbv) (lb rfl) ?_
  refine nT ?_
  rcases tf (A.zeq r5 0) with c6 | c6
  · replace h := cT c6 h
    refine AWp.cdF rfl (by first | rfl | simp only [c6, Bool.not_true, Bool.not_false, cond_true, cond_false]) ?_
    refine AWp.skip ?_
    refine nT ?_
    refine AWp.seq ?_
    refine AWp.region ?_
    obtain ⟨q18, e7, h⟩ := bindS h
    rcases q18 with _ | ⟨r8, r9, r10, r11, r12, r13, r14, r15, r16, r17⟩
    · replace h := (eL h)
      refine AOps.cc hT hA {} (by (repeat (cbv; simp only [c6])); first | done | cbv) (lb rfl) (C106wa hA e7) rfl (.inl rfl) rfl rfl rfl (lb rfl) rfl rfl ?_
      refine AOps.cd hT hA {} (by (repeat (cbv; simp only [c6])); first | done | cbv) (lb rfl) ?_
      refine nT ?_
      refine AWp.seq ?_
      refine AWp.seq ?_
      refine AWp.rg hT hA {} (by (repeat (cbv; simp only [c6])); first | done | cbv) (lb rfl) ?_
      refine nT ?_
      refine AWp.cdT rfl (by first | rfl | simp only [c6, Bool.not_true, Bool.not_false, cond_true, cond_false]) ?_
      refine AWp.seq ?_
      refine AWp.rg hT hA {} (by (repeat (cbv; simp only [c6])); first | done | cbv) (lb rfl) ?_
      refine nT ?_
      refine AWp.ret ?_
      refine rT ?_
      cases soI h
    · replace h := (eR h)
      refine AOps.cc hT hA {} (by (repeat (cbv; simp only [c6])); first | done | cbv) (lb rfl) (C106wb hA e7) rfl (.inl rfl) rfl rfl rfl (lb rfl) rfl rfl ?_
      refine AOps.cd hT hA {} (by (repeat (cbv; simp only [c6])); first | done | cbv) (lb rfl) ?_
      refine nT ?_
      refine AWp.seq ?_
      refine AWp.seq ?_
      refine AWp.rg hT hA {} (by (repeat (cbv; simp only [c6])); first | done | cbv) (lb rfl) ?_
      refine nT ?_
      refine AWp.cdF rfl (by first | rfl | simp only [c6, Bool.not_true, Bool.not_false, cond_true, cond_false]) ?_
      refine AWp.skip ?_
      refine nT ?_
      refine AWp.seq ?_
      refine AWp.rg hT hA {} (by (repeat (cbv; simp only [c6])); first | done | cbv) (lb rfl) ?_
      refine nT ?_
      refine AWp.ret ?_
      cases soI h
      exact ⟨rfl, rfl, rfl, lb rfl, _, rfl⟩
  · replace h := cF c6 h
    refine AWp.cdT rfl (by first | rfl | simp only [c6, Bool.not_true, Bool.not_false, cond_true, cond_false]) ?_
    refine AWp.seq ?_
    refine AWp.rg hT hA {} (by (repeat (cbv; simp only [c6])); first | done | cbv) (lb rfl) ?_
    refine nT ?_
    refine AWp.ret ?_
    refine rT ?_
    cases soI h

theorem C14w {A : Ar} (hA : A = Ar.std) {x1 : List D} {x2 : List D} {x3 : List D} {v19 : List D} {v20 : Int} (h : C14 A x1 x2 x3 = some (v19, v20)) : ACall Try.prog 14 [(.d (.list 1 x1)), (.d (.list 1 x2)), (.d (.list 1 x3))] [] (.tuple [(.d (.list 6 v19)), (.d (.int .i64 v20))]) [] := by
  unfold C14 at h
  refine ACall.enter hT (fn := Try.f14) Try.func14 rfl (by decide) (by simp [Try.f14]) rfl rfl rfl rfl (lb rfl) ?_
  refine AWp.seq ?_
  refine AWp.rg hT hA {} (by cbv) (lb rfl) ?_
  refine nT ?_
  refine AWp.seq ?_
  refine AWp.region ?_
  obtain ⟨q16, e4, h⟩ := bindS h
  rcases q16 with r5 | ⟨r6, r7, r8, r9, r10, r11, r12, r13, r14, r15⟩
  · replace h := (eL h)
    refine AOps.cc hT hA {} (by cbv) (lb rfl) (C46wa hA e4) rfl (.inl rfl) rfl rfl rfl (lb rfl) rfl rfl ?_
    refine AOps.cd hT hA {} (by cbv) (lb rfl) ?_
    refine nT ?_
    refine AWp.seq ?_
    refine AWp.seq ?_
    refine AWp.rg hT hA {} (by cbv) (lb rfl) ?_
    refine nT ?_
    rcases tf (A.zeq r5 0) with c17 | c17
    · replace h := cT c17 h
      refine AWp.cdF rfl (by first | rfl | simp only [c17, Bool.not_true, Bool.not_false, cond_true, cond_false]) ?_
      refine AWp.skip ?_
      refine nT ?_
      refine AWp.seq ?_
      cases h
    · replace h := cF c17 h
      refine AWp.cdT rfl (by first | rfl | simp only [c17, Bool.not_true, Bool.not_false, cond_true, cond_false]) ?_
      refine AWp.seq ?_
      refine AWp.rg hT hA {} (by (repeat (cbv; simp only [c17])); first | done | cbv) (lb rfl) ?_
      refine nT ?_
      refine AWp.ret ?_
      refine rT ?_
      cases soI h
      exact ⟨rfl, rfl, rfl, lb rfl, _, rfl⟩
  · replace h := (eR h)
    refine AOps.cc hT hA {} (by cbv) (lb rfl) (C46wb hA e4) rfl (.inl rfl) rfl rfl rfl (lb rfl) rfl rfl ?_
    refine AOps.cd hT hA {} (by cbv) (lb rfl) ?_
    refine nT ?_
    refine AWp.seq ?_
    refine AWp.seq ?_
    have f18 := zeqF hA (a := 0) (b := 0) (c := true) rfl
    refine AWp.rg hT hA {} (by (repeat (cbv; simp only [f18])); first | done | cbv) (lb rfl) ?_
    refine nT ?_
    refine AWp.cdF rfl (by first | rfl | simp only [f18, Bool.not_true, Bool.not_false, cond_true, cond_false]) ?_
    refine AWp.skip ?_
    refine nT ?_
    refine AWp.seq ?_
    refine AWp.rg hT hA {} (by (repeat (cbv; simp only [f18])); first | done | cbv) (lb rfl) ?_
    refine nT ?_
    refine AWp.weak (Wk.freezeS 6 rfl rfl) ?_
    refine AWp.weak (Wk.ren [] [6, 7] rfl rfl) ?_
    refine AWp.ret ?_
    cases soI h
    exact ⟨rfl, rfl, rfl, lb rfl, _, rfl⟩

theorem C17w {A : Ar} (hA : A = Ar.std) {x1 : List D} {x2 : List D} {v46 : Bool} (h : C17 A x1 x2 = some v46) : ACall Try.prog 17 [(.d (.list 6 x1)), (.d (.list 6 x2))] [] (.d (.bool v46)) [] := by
  unfold C17 at h
  refine ACall.enter hT (fn := Try.f17) Try.func17 rfl (by decide) (by simp [Try.f17]) rfl rfl rfl rfl (lb rfl) ?_
  refine AWp.seq ?_
  refine AWp.rg hT hA {} (by cbv) (lb rfl) ?_
  refine nT ?_
  refine AWp.seq ?_
  refine AWp.seq ?_
  refine AWp.rg hT hA {} (by cbv) (lb rfl) ?_
  refine nT ?_
  rcases tf (A.zeq (A.len x1) (A.len x2)) with c3 | c3
  · replace h := cT c3 h
    refine AWp.cdF rfl (by first | rfl | simp only [c3, Bool.not_true, Bool.not_false, cond_true, cond_false]) ?_
    refine AWp.skip ?_
    refine nT ?_
    refine AWp.seq ?_
    refine AWp.seq ?_
    refine AWp.rg hT hA {} (by (repeat (cbv; simp only [c3])); first | done | cbv) (lb rfl) ?_
    refine nT ?_
    refine AWp.block ?_
    obtain ⟨xK45, hxK45, K45, hK45, hkK45⟩ := bindK h
    refine AWp.cutX 0 [] [] 0 (lb rfl) (fun τ => K45 (.inl ()) = some v46 ∧ τ = { env := [], heap := [], n := 26 }) ?_ ?_
    · skip
      refine AWp.iter hxK45 [0, 1, 5] [] 0 (lb rfl) (fun v24 => { env := [(0, (.d (.list 6 x1))), (1, (.d (.list 6 x2))), (5, (.d (.int .i64 v24)))], heap := [], n := 26 }) ⟨rfl, (by first | (cbv; done) | ((repeat (cbv; simp only [c3])); first | done | cbv))⟩ ?_
      rintro v24 eK45 hsK45
      dsimp only [C17L0] at hsK45
      refine AWp.seq ?_
      refine AWp.seq ?_
      refine AWp.rg hT hA {} (by cbv) (lb rfl) ?_
      refine nT ?_
      rcases tf (A.zlt v24 (A.len x1)) with c25 | c25
      · replace hsK45 := cT c25 hsK45
        refine AWp.cdT rfl (by first | rfl | simp only [c25, Bool.not_true, Bool.not_false, cond_true, cond_false]) ?_
        refine AWp.skip ?_
        refine nT ?_
        refine AWp.seq ?_
        refine AWp.block ?_
        refine AWp.seq ?_
        obtain ⟨⟨a26, a27, a28, a29, a30, a31⟩, e32, hsK45⟩ := bindS hsK45
        obtain ⟨f33, f34⟩ := gtI e32
        obtain ⟨⟨a35, a36, a37, a38, a39, a40⟩, e41, hsK45⟩ := bindS hsK45
        obtain ⟨f42, f43⟩ := gtI e41
        refine AWp.rd hT hA {} rfl (by (repeat (cbv; simp only [c25, f33, f34, f42, f43])); first | done | cbv) (by kernel_rfl) (lb rfl) ?_
        refine nT ?_
        rcases tf (A.deq [(.int .i64 a26), (.int .i64 a27), (.int .i64 a28), (.int .i64 a29), (.int .i64 a30), (.int .i64 a31)] [(.int .i64 a35), (.int .i64 a36), (.int .i64 a37), (.int .i64 a38), (.int .i64 a39), (.int .i64 a40)]) with c44 | c44
        · replace hsK45 := cT c44 hsK45
          refine AWp.cdF rfl (by first | rfl | simp only [c25, c44, Bool.not_true, Bool.not_false, cond_true, cond_false]) ?_
          refine AWp.skip ?_
          refine nB ?_
          refine nT ?_
          refine AWp.rg hT hA {} (by (repeat (cbv; simp only [c25, c44])); first | done | cbv) (lb rfl) ?_
          exact nT ⟨_, (soI hsK45).symm, rfl, (by first | (cbv; done) | ((repeat (cbv; simp only [c25, c44])); first | done | cbv))⟩
        · replace hsK45 := cF c44 hsK45
          refine AWp.cdT rfl (by first | rfl | simp only [c25, c44, Bool.not_true, Bool.not_false, cond_true, cond_false]) ?_
          refine AWp.seq ?_
          refine AWp.rg hT hA {} (by (repeat (cbv; simp only [c25, c44])); first | done | cbv) (lb rfl) ?_
          refine nT ?_
          refine AWp.ret ?_
          refine rB ?_
          refine rT ?_
          refine rT ?_
          refine exL hsK45 fun hx => ?_
          subst hx
          refine oxR ?_
          replace hkK45 := (eR (hK45 _ hkK45))
          refine rB ?_
          refine rT ?_
          cases soI hkK45
          exact ⟨rfl, rfl, rfl, lb rfl, _, rfl⟩
      · replace hsK45 := cF c25 hsK45
        refine AWp.cdF rfl (by first | rfl | simp only [c25, Bool.not_true, Bool.not_false, cond_true, cond_false]) ?_
        refine AWp.exit ?_
        refine xT ?_
        refine xT ?_
        refine exL hsK45 fun hx => ?_
        subst hx
        exact oxI ⟨rfl, hkK45, (by first | (cbv; done) | ((repeat (cbv; simp only [c25])); first | done | cbv))⟩
    · rintro _ ⟨hkK45, rfl⟩
      have h := (eL (hK45 _ hkK45))
      refine xB ?_
      refine nT ?_
      refine AWp.seq ?_
      refine AWp.rg hT hA {} (by cbv) (lb rfl) ?_
      refine nT ?_
      refine AWp.ret ?_
      cases soI h
      exact ⟨rfl, rfl, rfl, lb rfl, _, rfl⟩
  · replace h := cF c3 h
    refine AWp.cdT rfl (by first | rfl | simp only [c3, Bool.not_true, Bool.not_false, cond_true, cond_false]) ?_
    refine AWp.seq ?_
    refine AWp.rg hT hA {} (by (repeat (cbv; simp only [c3])); first | done | cbv) (lb rfl) ?_
    refine nT ?_
    refine AWp.ret ?_
    refine rT ?_
    cases soI h
    exact ⟨rfl, rfl, rfl, lb rfl, _, rfl⟩

theorem C54w {A : Ar} (hA : A = Ar.std) {x1 : List D} {v12 : List D} (h : C54 A x1 = some v12) : ACall Try.prog 54 [(.d (.list 1 x1))] [] (.own 1 v12) [] := by
  unfold C54 at h
  refine ACall.enter hT (fn := Try.f54) Try.func54 rfl (by decide) (by simp [Try.f54]) rfl rfl rfl rfl (lb rfl) ?_
  refine AWp.seq ?_
  refine AWp.rg hT hA {} (by cbv) (lb rfl) ?_
  refine nT ?_
  refine AWp.seq ?_
  refine AWp.seq ?_
  rcases tf (A.zlt 0 (A.len x1)) with c2 | c2
  · replace h := cT c2 h
    refine AWp.rg hT hA {} (by (repeat (cbv; simp only [c2])); first | done | cbv) (lb rfl) ?_
    refine nT ?_
    refine AWp.cond (b := false) (by cbv; simp only [c2]) ?_
    rw [if_neg Bool.false_ne_true]
    refine AWp.skip ?_
    refine nT ?_
    refine AWp.seq ?_
    obtain ⟨l4, e5, h⟩ := bindS h
    obtain ⟨f6, f7⟩ := apI e5
    refine AWp.rg hT hA { tk := [7] } (by (repeat (cbv; simp only [c2, f6, f7])); first | done | cbv) (lb rfl) ?_
    refine nT ?_
    refine AWp.ret ?_
    cases soI h
    exact ⟨rfl, rfl, rfl, lb rfl, _, rfl⟩
  · replace h := cF c2 h
    refine AWp.rg hT hA {} (by (repeat (cbv; simp only [c2])); first | done | cbv) (lb rfl) ?_
    refine nT ?_
    obtain ⟨hc3a, hc3b⟩ := bothI h
    refine AWp.condAny (by cbv; simp only [c2]) ?_ ?_
    · replace h := hc3a
      refine AWp.seq ?_
      refine AWp.rg hT hA {} (by (repeat (cbv; simp only [c2])); first | done | cbv) (lb rfl) ?_
      refine nT ?_
      refine AWp.ret ?_
      refine rT ?_
      cases soI h
      exact ⟨rfl, rfl, rfl, lb rfl, _, rfl⟩
    · replace h := hc3b
      refine AWp.skip ?_
      refine nT ?_
      refine AWp.seq ?_
      obtain ⟨l8, e9, h⟩ := bindS h
      obtain ⟨f10, f11⟩ := apI e9
      refine AWp.rg hT hA { tk := [7] } (by (repeat (cbv; simp only [c2, f10, f11])); first | done | cbv) (lb rfl) ?_
      refine nT ?_
      refine AWp.ret ?_
      cases soI h
      exact ⟨rfl, rfl, rfl, lb rfl, _, rfl⟩

theorem C53w {A : Ar} (hA : A = Ar.std) {x1 : List D} {x2 : List D} {x3 : Int} {x4 : Int} {x5 : Int} {x6 : Int} {x7 : Int} {x8 : Int} {x9 : Int} {x10 : Int} {x11 : Int} {x12 : Int} {x13 : Int} {x14 : Int} {x15 : Int} {x16 : Int} {x17 : Int} {x18 : Int} {x19 : Int} {x20 : Int} {x21 : List D} {x22 : List D} {v25 : List D} (h : C53 A x1 x2 x3 x4 x5 x6 x7 x8 x9 x10 x11 x12 x13 x14 x15 x16 x17 x18 x19 x20 x21 x22 = some v25) : ACall Try.prog 53 [(.d (.agg [(.list 1 x1), (.list 1 x2), (.int .i64 x3), (.int .i64 x4), (.int .i64 x5), (.int .i64 x6), (.int .i64 x7), (.int .i64 x8), (.int .i64 x9), (.int .i64 x10), (.int .i64 x11), (.int .i64 x12), (.int .i64 x13), (.int .i64 x14), (.int .i64 x15), (.int .i64 x16), (.int .i64 x17), (.int .i64 x18), (.int .i64 x19), (.int .i64 x20), (.list 6 x21), (.list 1 x22)]))] [] (.own 1 v25) [] := by
  unfold C53 at h
  refine ACall.enter hT (fn := Try.f53) Try.func53 rfl (by decide) (by simp [Try.f53]) rfl rfl rfl rfl (lb rfl) ?_
  refine AWp.seq ?_
  refine AWp.rg hT hA {} (by cbv) (lb rfl) ?_
  refine nT ?_
  refine AWp.seq ?_
  refine AWp.freezeBox 1 [(.list 1 x1), (.list 1 x2), (.int .i64 x3), (.int .i64 x4), (.int .i64 x5), (.int .i64 x6), (.int .i64 x7), (.int .i64 x8), (.int .i64 x9), (.int .i64 x10), (.int .i64 x11), (.int .i64 x12), (.int .i64 x13), (.int .i64 x14), (.int .i64 x15), (.int .i64 x16), (.int .i64 x17), (.int .i64 x18), (.int .i64 x19), (.int .i64 x20), (.list 6 x21), (.list 1 x22)] rfl rfl ?_
  refine AWp.region ?_
  obtain ⟨r24, e23, h⟩ := bindS h
  refine AOps.cc hT hA { tk := [5] } (by cbv) (lb rfl) (C54w hA e23) rfl (.inl rfl) rfl rfl rfl (lb rfl) rfl rfl ?_
  refine AOps.cd hT hA { tk := [5] } (by cbv) (lb rfl) ?_
  refine nT ?_
  refine AWp.ret ?_
  cases soI h
  exact ⟨rfl, rfl, rfl, lb rfl, _, rfl⟩

theorem C44aw {A : Ar} (hA : A = Ar.std) {x1 : List D} {x2 : List D} {x3 : List D} {v34 : List D} {v35 : Int} (h : C44a A x1 x2 x3 = some (v34, v35)) : ACall Try.prog 44 [(.d (.list 1 x1)), (.d (.list 1 x2)), (.d (.list 1 x3)), (.func 53 [] [])] [] (.tuple [(.d (.list 1 v34)), (.d (.int .i64 v35))]) [] := by
  unfold C44a at h
  refine ACall.enter hT (fn := Try.f44) Try.func44 rfl (by decide) (by simp [Try.f44]) rfl rfl rfl rfl (lb rfl) ?_
  refine AWp.seq ?_
  refine AWp.rg hT hA {} (by cbv) (lb rfl) ?_
  refine nT ?_
  refine AWp.seq ?_
  refine AWp.seq ?_
  refine AWp.region ?_
  obtain ⟨r5, e4, h⟩ := bindS h
  refine AOps.cc hT hA {} (by cbv) (lb rfl) (C89w hA e4) rfl (.inl rfl) rfl rfl rfl (lb rfl) rfl rfl ?_
  refine AOps.cd hT hA {} (by cbv) (lb rfl) ?_
  refine nT ?_
  refine AWp.seq ?_
  refine AWp.rg hT hA {} (by cbv) (lb rfl) ?_
  refine nT ?_
  rcases tf (A.zeq r5 0) with c6 | c6
  · replace h := cT c6 h
    refine AWp.cdF rfl (by first | rfl | simp only [c6, Bool.not_true, Bool.not_false, cond_true, cond_false]) ?_
    refine AWp.skip ?_
    refine nT ?_
    refine AWp.seq ?_
    refine AWp.region ?_
    obtain ⟨⟨r8, r9, r10, r11, r12, r13, r14, r15, r16, r17, r18, r19, r20, r21, r22, r23, r24, r25, r26, r27, r28, r29, r30⟩, e7, h⟩ := bindS h
    refine AOps.cc hT hA { tk := [24] } (by (repeat (cbv; simp only [c6])); first | done | cbv) (lb rfl) (C104w hA e7) rfl (.inl rfl) rfl rfl rfl (lb rfl) rfl rfl ?_
    refine AOps.cd hT hA { tk := [24] } (by (repeat (cbv; simp only [c6])); first | done | cbv) (lb rfl) ?_
    refine nT ?_
    refine AWp.seq ?_
    refine AWp.seq ?_
    refine AWp.rg hT hA {} (by (repeat (cbv; simp only [c6])); first | done | cbv) (lb rfl) ?_
    refine nT ?_
    rcases tf r30 with c31 | c31
    · replace h := cT c31 h
      refine AWp.cdF rfl (by first | rfl | simp only [c6, c31, Bool.not_true, Bool.not_false, cond_true, cond_false]) ?_
      refine AWp.skip ?_
      refine nT ?_
      refine AWp.seq ?_
      refine AWp.region ?_
      obtain ⟨r33, e32, h⟩ := bindS h
      refine AOps.cc hT hA {} (by (repeat (cbv; simp only [c6, c31])); first | done | cbv) (lb rfl) (C53w hA e32) rfl (.inl rfl) rfl rfl rfl (lb rfl) rfl rfl ?_
      refine AOps.cd hT hA {} (by (repeat (cbv; simp only [c6, c31])); first | done | cbv) (lb rfl) ?_
      refine nT ?_
      refine AWp.ret ?_
      cases soI h
      exact ⟨rfl, rfl, rfl, lb rfl, _, rfl⟩
    · replace h := cF c31 h
      refine AWp.cdT rfl (by first | rfl | simp only [c6, c31, Bool.not_true, Bool.not_false, cond_true, cond_false]) ?_
      refine AWp.seq ?_
      refine AWp.rg hT hA {} (by (repeat (cbv; simp only [c6, c31])); first | done | cbv) (lb rfl) ?_
      refine nT ?_
      refine AWp.ret ?_
      refine rT ?_
      cases soI h
      exact ⟨rfl, rfl, rfl, lb rfl, _, rfl⟩
  · replace h := cF c6 h
    refine AWp.cdT rfl (by first | rfl | simp only [c6, Bool.not_true, Bool.not_false, cond_true, cond_false]) ?_
    refine AWp.seq ?_
    refine AWp.rg hT hA {} (by (repeat (cbv; simp only [c6])); first | done | cbv) (lb rfl) ?_
    refine nT ?_
    refine AWp.ret ?_
    refine rT ?_
    cases soI h
    exact ⟨rfl, rfl, rfl, lb rfl, _, rfl⟩

theorem C18w {A : Ar} (hA : A = Ar.std) {x1 : List D} {x2 : List D} {x3 : List D} {v7 : List D} {v8 : Int} (h : C18 A x1 x2 x3 = some (v7, v8)) : ACall Try.prog 18 [(.d (.list 1 x1)), (.d (.list 1 x2)), (.d (.list 1 x3))] [] (.tuple [(.d (.list 1 v7)), (.d (.int .i64 v8))]) [] := by
  unfold C18 at h
  refine ACall.enter hT (fn := Try.f18) Try.func18 rfl (by decide) (by simp [Try.f18]) rfl rfl rfl rfl (lb rfl) ?_
  refine AWp.seq ?_
  refine AWp.rg hT hA {} (by cbv) (lb rfl) ?_
  refine nT ?_
  refine AWp.seq ?_
  refine AWp.region ?_
  obtain ⟨⟨r5, r6⟩, e4, h⟩ := bindS h
  refine AOps.cc hT hA {} (by cbv) (lb rfl) (C44aw hA e4) rfl (.inl rfl) rfl rfl rfl (lb rfl) rfl rfl ?_
  refine AOps.cd hT hA {} (by cbv) (lb rfl) ?_
  refine nT ?_
  refine AWp.ret ?_
  cases soI h
  exact ⟨rfl, rfl, rfl, lb rfl, _, rfl⟩

theorem C19w {A : Ar} (hA : A = Ar.std) {x1 : List D} {x2 : List D} {x3 : List D} {v57 : List D} {v58 : Int} (h : C19 A x1 x2 x3 = some (v57, v58)) : ACall Try.prog 19 [(.d (.list 1 x1)), (.d (.list 1 x2)), (.d (.list 1 x3))] [] (.tuple [(.d (.list 1 v57)), (.d (.int .i64 v58))]) [] := by
  unfold C19 at h
  refine ACall.enter hT (fn := Try.f19) Try.func19 rfl (by decide) (by simp [Try.f19]) rfl rfl rfl rfl (lb rfl) ?_
  refine AWp.seq ?_
  refine AWp.rg hT hA {} (by cbv) (lb rfl) ?_
  refine nT ?_
  refine AWp.seq ?_
  refine AWp.region ?_
  obtain ⟨q16, e4, h⟩ := bindS h
  rcases q16 with r5 | ⟨r6, r7, r8, r9, r10, r11, r12, r13, r14, r15⟩
  · replace h := (eL h)
    refine AOps.cc hT hA {} (by cbv) (lb rfl) (C46wa hA e4) rfl (.inl rfl) rfl rfl rfl (lb rfl) rfl rfl ?_
    refine AOps.cd hT hA {} (by cbv) (lb rfl) ?_
    refine nT ?_
    refine AWp.seq ?_
    refine AWp.seq ?_
    refine AWp.rg hT hA {} (by cbv) (lb rfl) ?_
    refine nT ?_
    rcases tf (A.zeq r5 0) with c17 | c17
    · replace h := cT c17 h
      refine AWp.cdF rfl (by first | rfl | simp only [c17, Bool.not_true, Bool.not_false, cond_true, cond_false]) ?_
      refine AWp.skip ?_
      refine nT ?_
      refine AWp.seq ?_
      refine AWp.rg hT hA {} (by (repeat (cbv; simp only [c17])); first | done | cbv) (lb rfl) ?_
      refine nT ?_
      refine AWp.seq ?_
      refine AWp.seq ?_
      refine AWp.rg hT hA {} (by (repeat (cbv; simp only [c17])); first | done | cbv) (lb rfl) ?_
      refine nT ?_
      refine AWp.block ?_
      cases h
    · replace h := cF c17 h
      refine AWp.cdT rfl (by first | rfl | simp only [c17, Bool.not_true, Bool.not_false, cond_true, cond_false]) ?_
      refine AWp.seq ?_
      refine AWp.rg hT hA {} (by (repeat (cbv; simp only [c17])); first | done | cbv) (lb rfl) ?_
      refine nT ?_
      refine AWp.ret ?_
      refine rT ?_
      cases soI h
      exact ⟨rfl, rfl, rfl, lb rfl, _, rfl⟩
  · replace h := (eR h)
    refine AOps.cc hT hA {} (by cbv) (lb rfl) (C46wb hA e4) rfl (.inl rfl) rfl rfl rfl (lb rfl) rfl rfl ?_
    refine AOps.cd hT hA {} (by cbv) (lb rfl) ?_
    refine nT ?_
    refine AWp.seq ?_
    refine AWp.seq ?_
    have f19 := zeqF hA (a := 0) (b := 0) (c := true) rfl
    refine AWp.rg hT hA {} (by (repeat (cbv; simp only [f19])); first | done | cbv) (lb rfl) ?_
    refine nT ?_
    refine AWp.cdF rfl (by first | rfl | simp only [f19, Bool.not_true, Bool.not_false, cond_true, cond_false]) ?_
    refine AWp.skip ?_
    refine nT ?_
    refine AWp.seq ?_
    refine AWp.rg hT hA {} (by (repeat (cbv; simp only [f19])); first | done | cbv) (lb rfl) ?_
    refine nT ?_
    refine AWp.seq ?_
    refine AWp.seq ?_
    refine AWp.rg hT hA {} (by (repeat (cbv; simp only [f19])); first | done | cbv) (lb rfl) ?_
    refine nT ?_
    refine AWp.block ?_
    obtain ⟨xK56, hxK56, K56, hK56, hkK56⟩ := bindK h
    refine AWp.cutXW 0 (fun τ => ∃ v55, K56 v55 = some (v57, v58) ∧ τ = { env := [(10, (.own 1 v55))], heap := [], n := 36 }) ?_ ?_
    · skip
      refine AWp.iterW hxK56 (fun (v41, v42) => { env := [(8, (.ptr 0 0)), (10, (.own 1 v41)), (11, (.d (.int .i64 v42)))], heap := [(.cells [(.d (.list 1 r6)), (.d (.list 1 r7)), (.d (.list 1 r8)), (.gref 1 8), (.d (.int .i64 r9)), (.d (.int .i64 r10)), (.d (.int .i64 r11)), (.d (.int .i64 r12)), (.gref 4 6), (.gref 7 1)]), (.gro 8 r13), .dead, .dead, (.gro 6 r14), .dead, .dead, (.gro 1 r15), .dead, .dead], n := 36 }) ⟨_, Wk.ren [some 0, some 1, some 2, some 3, some 4, some 5, some 6, some 7, some 8, some 9] [8, 10, 11] rfl (by first | (cbv; done) | ((repeat (cbv; simp only [f19])); first | done | cbv)), rfl⟩ ?_
      rintro ⟨v41, v42⟩ eK56 hsK56
      dsimp only [C19L0] at hsK56
      refine AWp.seq ?_
      refine AWp.seq ?_
      refine AWp.rg hT hA {} (by cbv) (lb rfl) ?_
      refine nT ?_
      rcases tf (A.zlt v42 3) with c43 | c43
      · replace hsK56 := cT c43 hsK56
        refine AWp.cdT rfl (by first | rfl | simp only [c43, Bool.not_true, Bool.not_false, cond_true, cond_false]) ?_
        refine AWp.skip ?_
        refine nT ?_
        refine AWp.seq ?_
        refine AWp.block ?_
        obtain ⟨_, e44, hsK56⟩ := bindS hsK56
        have f46 := ckI e44
        obtain ⟨_, e45, hsK56⟩ := bindS hsK56
        have f47 := ckI e45
        obtain ⟨a48, e49, hsK56⟩ := bindS hsK56
        have f50 := gcI e49
        obtain ⟨l51, e52, hsK56⟩ := bindS hsK56
        obtain ⟨f53, f54⟩ := apI e52
        refine AWp.rg hT hA { tk := [10, 34], vx := [31] } (by (repeat (cbv; simp only [c43, f46, f47, f50, f53, f54])); first | done | cbv) (lb rfl) ?_
        refine nB ?_
        refine nT ?_
        refine AWp.rg hT hA {} (by (repeat (cbv; simp only [c43])); first | done | cbv) (lb rfl) ?_
        exact nT ⟨_, (soI hsK56).symm, _, (Wk.ren [some 0, some 1, some 2, some 3, some 4, some 5, some 6, some 7, some 8, some 9] [8, 10, 11] rfl (by first | (cbv; done) | ((repeat (cbv; simp only [c43])); first | done | cbv))), rfl⟩
      · replace hsK56 := cF c43 hsK56
        refine AWp.cdF rfl (by first | rfl | simp only [c43, Bool.not_true, Bool.not_false, cond_true, cond_false]) ?_
        refine AWp.exit ?_
        refine xT ?_
        refine xT ?_
        refine exL hsK56 fun hx => ?_
        subst hx
        exact oxWI ⟨_, (Wk.ren [] [10] rfl (by first | (cbv; done) | ((repeat (cbv; simp only [c43])); first | done | cbv))), _, hkK56, rfl⟩
    · rintro _ ⟨v55, hkK56, rfl⟩
      have h := (hK56 _ hkK56)
      refine xB ?_
      refine nT ?_
      refine AWp.seq ?_
      refine AWp.rg hT hA {} (by cbv) (lb rfl) ?_
      refine nT ?_
      refine AWp.ret ?_
      cases soI h
      exact ⟨rfl, rfl, rfl, lb rfl, _, rfl⟩

theorem C70aw {A : Ar} (hA : A = Ar.std) {x1 : List D} {x2 : List D} {x3 : Int} {x4 : Int} {x5 : Int} {x6 : Int} {x7 : Int} {x8 : Int} {x9 : Int} {x10 : Int} {x11 : Int} {x12 : Int} {x13 : Int} {x14 : Int} {x15 : Int} {x16 : Int} {x17 : Int} {x18 : Int} {x19 : Int} {x20 : Int} {x21 : List D} {x22 : List D} {x23 : Int} {v43 : Bool} (h : C70a A x1 x2 x3 x4 x5 x6 x7 x8 x9 x10 x11 x12 x13 x14 x15 x16 x17 x18 x19 x20 x21 x22 x23 = some v43) : ACall Try.prog 70 [(.iptr [(.list 1 x1), (.list 1 x2), (.int .i64 x3), (.int .i64 x4), (.int .i64 x5), (.int .i64 x6), (.int .i64 x7), (.int .i64 x8), (.int .i64 x9), (.int .i64 x10), (.int .i64 x11), (.int .i64 x12), (.int .i64 x13), (.int .i64 x14), (.int .i64 x15), (.int .i64 x16), (.int .i64 x17), (.int .i64 x18), (.int .i64 x19), (.int .i64 x20), (.list 6 x21), (.list 1 x22)]), (.d (.int .i64 x23))] [] (.d (.bool v43)) [] := by
  unfold C70a at h
  refine ACall.enter hT (fn := Try.f70) Try.func70 rfl (by decide) (by simp [Try.f70]) rfl rfl rfl rfl (lb rfl) ?_
  refine AWp.seq ?_
  refine AWp.rg hT hA {} (by cbv) (lb rfl) ?_
  refine nT ?_
  refine AWp.seq ?_
  obtain ⟨v41, hvK42, h⟩ := bindS h
  refine AWp.cutN [4] [] 0 (lb rfl) (fun τ => τ = { env := [(4, (.d (.bool v41)))], heap := [], n := 31 }) ?_ ?_
  · skip
    refine AWp.regionDraw rfl (lb rfl) ?_
    obtain ⟨r25, e24, hvK42⟩ := bindS hvK42
    refine DOps.c0 hT hA { tk := [30] } rfl (by cbv) (C47w hA e24) rfl rfl (lb rfl) rfl rfl ?_
    rcases tf r25 with c26 | c26
    · replace hvK42 := cT c26 hvK42
      rcases tf (A.zeq x23 0) with c27 | c27
      · replace hvK42 := cT c27 hvK42
        obtain ⟨f28a, f28b, f28c⟩ := ixF hA (n := 2) c27 (by decide)
        obtain ⟨a29, e30, hvK42⟩ := bindS hvK42
        obtain ⟨f31, f32⟩ := gtI e30
        have f33 := f32
        rw [f28c] at f33
        refine DOps.cd hT hA { tk := [30] } rfl (by (repeat (cbv; simp only [c26, f28a, f28b, f28c, f33, f31, f32])); first | done | cbv) (by kernel_rfl) ?_
        cases soI hvK42
        exact oNi ⟨rfl, (by first | (cbv; done) | ((repeat (cbv; simp only [c26])); first | done | cbv))⟩
      · replace hvK42 := cF c27 hvK42
        rcases tf (A.zeq x23 1) with c34 | c34
        · replace hvK42 := cT c34 hvK42
          obtain ⟨f35a, f35b, f35c⟩ := ixF hA (n := 2) c34 (by decide)
          obtain ⟨a36, e37, hvK42⟩ := bindS hvK42
          obtain ⟨f38, f39⟩ := gtI e37
          have f40 := f39
          rw [f35c] at f40
          refine DOps.cd hT hA { tk := [30] } rfl (by (repeat (cbv; simp only [c26, f35a, f35b, f35c, f40, f38, f39])); first | done | cbv) (by kernel_rfl) ?_
          cases soI hvK42
          exact oNi ⟨rfl, (by first | (cbv; done) | ((repeat (cbv; simp only [c26])); first | done | cbv))⟩
        · replace hvK42 := cF c34 hvK42
          cases hvK42
    · replace hvK42 := cF c26 hvK42
      refine DOps.cd hT hA { tk := [30] } rfl (by (repeat (cbv; simp only [c26])); first | done | cbv) (by kernel_rfl) ?_
      cases soI hvK42
      exact oNi ⟨rfl, (by first | (cbv; done) | ((repeat (cbv; simp only [c26])); first | done | cbv))⟩
  · rintro _ rfl
    refine nT ?_
    refine AWp.ret ?_
    cases soI h
    exact ⟨rfl, rfl, rfl, lb rfl, _, rfl⟩

theorem C56w {A : Ar} (hA : A = Ar.std) {x1 : List D} {x2 : List D} {x3 : Int} {x4 : Int} {x5 : Int} {x6 : Int} {x7 : Int} {x8 : Int} {x9 : Int} {x10 : Int} {x11 : Int} {x12 : Int} {x13 : Int} {x14 : Int} {x15 : Int} {x16 : Int} {x17 : Int} {x18 : Int} {x19 : Int} {x20 : Int} {x21 : List D} {x22 : List D} {v47 : List D} (h : C56 A x1 x2 x3 x4 x5 x6 x7 x8 x9 x10 x11 x12 x13 x14 x15 x16 x17 x18 x19 x20 x21 x22 = some v47) : ACall Try.prog 56 [(.iptr [(.list 1 x1), (.list 1 x2), (.int .i64 x3), (.int .i64 x4), (.int .i64 x5), (.int .i64 x6), (.int .i64 x7), (.int .i64 x8), (.int .i64 x9), (.int .i64 x10), (.int .i64 x11), (.int .i64 x12), (.int .i64 x13), (.int .i64 x14), (.int .i64 x15), (.int .i64 x16), (.int .i64 x17), (.int .i64 x18), (.int .i64 x19), (.int .i64 x20), (.list 6 x21), (.list 1 x22)])] [] (.own 1 v47) [] := by
  unfold C56 at h
  refine ACall.enter hT (fn := Try.f56) Try.func56 rfl (by decide) (by simp [Try.f56]) rfl rfl rfl rfl (lb rfl) ?_
  refine AWp.seq ?_
  refine AWp.rg hT hA {} (by cbv) (lb rfl) ?_
  refine nT ?_
  refine AWp.seq ?_
  refine AWp.rg hT hA {} (by cbv) (lb rfl) ?_
  refine nT ?_
  refine AWp.seq ?_
  refine AWp.seq ?_
  refine AWp.rg hT hA {} (by cbv) (lb rfl) ?_
  refine nT ?_
  refine AWp.block ?_
  obtain ⟨xK46, hxK46, K46, hK46, hkK46⟩ := bindK h
  refine AWp.cutX 0 [3] [] 0 (lb rfl) (fun τ => ∃ v45, K46 v45 = some v47 ∧ τ = { env := [(3, (.own 1 v45))], heap := [], n := 22 }) ?_ ?_
  · skip
    refine AWp.iter hxK46 [0, 3, 9, 10] [] 0 (lb rfl) (fun (v33, v34) => { env := [(0, (.iptr [(.list 1 x1), (.list 1 x2), (.int .i64 x3), (.int .i64 x4), (.int .i64 x5), (.int .i64 x6), (.int .i64 x7), (.int .i64 x8), (.int .i64 x9), (.int .i64 x10), (.int .i64 x11), (.int .i64 x12), (.int .i64 x13), (.int .i64 x14), (.int .i64 x15), (.int .i64 x16), (.int .i64 x17), (.int .i64 x18), (.int .i64 x19), (.int .i64 x20), (.list 6 x21), (.list 1 x22)])), (3, (.own 1 v33)), (9, (.d (.int .i64 (A.len x2)))), (10, (.d (.int .i64 v34)))], heap := [], n := 22 }) ⟨rfl, (by cbv)⟩ ?_
    rintro ⟨v33, v34⟩ eK46 hsK46
    dsimp only [C56L0] at hsK46
    refine AWp.seq ?_
    refine AWp.rg hT hA {} (by cbv) (lb rfl) ?_
    refine nT ?_
    refine AWp.seq ?_
    rcases tf (A.zlt v34 (A.len x2)) with c35 | c35
    · replace hsK46 := cT c35 hsK46
      refine AWp.cdT rfl (by first | rfl | simp only [c35, Bool.not_true, Bool.not_false, cond_true, cond_false]) ?_
      refine AWp.skip ?_
      refine nT ?_
      refine AWp.seq ?_
      refine AWp.block ?_
      refine AWp.seq ?_
      refine AWp.rg hT hA {} (by (repeat (cbv; simp only [c35])); first | done | cbv) (lb rfl) ?_
      refine nT ?_
      refine AWp.seq ?_
      refine AWp.region ?_
      obtain ⟨r37, e36, hsK46⟩ := bindS hsK46
      refine AOps.cc hT hA {} (by (repeat (cbv; simp only [c35])); first | done | cbv) (lb rfl) (C70aw hA e36) rfl (.inl rfl) rfl rfl rfl (lb rfl) rfl rfl ?_
      refine AOps.cd hT hA {} (by (repeat (cbv; simp only [c35])); first | done | cbv) (lb rfl) ?_
      refine nT ?_
      obtain ⟨v43, hvK44, hsK46⟩ := bindS hsK46
      refine AWp.cutN [0, 3, 9, 10] [] 0 (lb rfl) (fun τ => τ = { env := [(0, (.iptr [(.list 1 x1), (.list 1 x2), (.int .i64 x3), (.int .i64 x4), (.int .i64 x5), (.int .i64 x6), (.int .i64 x7), (.int .i64 x8), (.int .i64 x9), (.int .i64 x10), (.int .i64 x11), (.int .i64 x12), (.int .i64 x13), (.int .i64 x14), (.int .i64 x15), (.int .i64 x16), (.int .i64 x17), (.int .i64 x18), (.int .i64 x19), (.int .i64 x20), (.list 6 x21), (.list 1 x22)])), (3, (.own 1 v43)), (9, (.d (.int .i64 (A.len x2)))), (10, (.d (.int .i64 v34)))], heap := [], n := 22 }) ?_ ?_
      · skip
        rcases tf r37 with c38 | c38
        · replace hvK44 := cT c38 hvK44
          refine AWp.cdT rfl (by first | rfl | simp only [c35, c38, Bool.not_true, Bool.not_false, cond_true, cond_false]) ?_
          obtain ⟨l39, e40, hvK44⟩ := bindS hvK44
          obtain ⟨f41, f42⟩ := apI e40
          refine AWp.rg hT hA { tk := [3, 19] } (by (repeat (cbv; simp only [c35, c38, f41, f42])); first | done | cbv) (lb rfl) ?_
          cases soI hvK44
          exact oNi ⟨rfl, (by first | (cbv; done) | ((repeat (cbv; simp only [c35, c38])); first | done | cbv))⟩
        · replace hvK44 := cF c38 hvK44
          refine AWp.cdF rfl (by first | rfl | simp only [c35, c38, Bool.not_true, Bool.not_false, cond_true, cond_false]) ?_
          refine AWp.skip ?_
          cases soI hvK44
          exact oNi ⟨rfl, (by first | (cbv; done) | ((repeat (cbv; simp only [c35, c38])); first | done | cbv))⟩
      · rintro _ rfl
        refine nB ?_
        refine nT ?_
        refine AWp.rg hT hA {} (by cbv) (lb rfl) ?_
        exact nT ⟨_, (soI hsK46).symm, rfl, (by cbv)⟩
    · replace hsK46 := cF c35 hsK46
      refine AWp.cdF rfl (by first | rfl | simp only [c35, Bool.not_true, Bool.not_false, cond_true, cond_false]) ?_
      refine AWp.exit ?_
      refine xT ?_
      refine xT ?_
      refine exL hsK46 fun hx => ?_
      subst hx
      exact oxI ⟨rfl, _, hkK46, (by first | (cbv; done) | ((repeat (cbv; simp only [c35])); first | done | cbv))⟩
  · rintro _ ⟨v45, hkK46, rfl⟩
    have h := (hK46 _ hkK46)
    refine xB ?_
    refine nT ?_
    refine AWp.seq ?_
    refine AWp.rg hT hA { tk := [3, 21] } (by cbv) (lb rfl) ?_
    refine nT ?_
    refine AWp.ret ?_
    cases soI h
    exact ⟨rfl, rfl, rfl, lb rfl, _, rfl⟩

theorem C55w {A : Ar} (hA : A = Ar.std) {x1 : List D} {x2 : List D} {x3 : Int} {x4 : Int} {x5 : Int} {x6 : Int} {x7 : Int} {x8 : Int} {x9 : Int} {x10 : Int} {x11 : Int} {x12 : Int} {x13 : Int} {x14 : Int} {x15 : Int} {x16 : Int} {x17 : Int} {x18 : Int} {x19 : Int} {x20 : Int} {x21 : List D} {x22 : List D} {v25 : List D} (h : C55 A x1 x2 x3 x4 x5 x6 x7 x8 x9 x10 x11 x12 x13 x14 x15 x16 x17 x18 x19 x20 x21 x22 = some v25) : ACall Try.prog 55 [(.d (.agg [(.list 1 x1), (.list 1 x2), (.int .i64 x3), (.int .i64 x4), (.int .i64 x5), (.int .i64 x6), (.int .i64 x7), (.int .i64 x8), (.int .i64 x9), (.int .i64 x10), (.int .i64 x11), (.int .i64 x12), (.int .i64 x13), (.int .i64 x14), (.int .i64 x15), (.int .i64 x16), (.int .i64 x17), (.int .i64 x18), (.int .i64 x19), (.int .i64 x20), (.list 6 x21), (.list 1 x22)]))] [] (.own 1 v25) [] := by
  unfold C55 at h
  refine ACall.enter hT (fn := Try.f55) Try.func55 rfl (by decide) (by simp [Try.f55]) rfl rfl rfl rfl (lb rfl) ?_
  refine AWp.seq ?_
  refine AWp.rg hT hA {} (by cbv) (lb rfl) ?_
  refine nT ?_
  refine AWp.freezeBox 1 [(.list 1 x1), (.list 1 x2), (.int .i64 x3), (.int .i64 x4), (.int .i64 x5), (.int .i64 x6), (.int .i64 x7), (.int .i64 x8), (.int .i64 x9), (.int .i64 x10), (.int .i64 x11), (.int .i64 x12), (.int .i64 x13), (.int .i64 x14), (.int .i64 x15), (.int .i64 x16), (.int .i64 x17), (.int .i64 x18), (.int .i64 x19), (.int .i64 x20), (.list 6 x21), (.list 1 x22)] rfl rfl ?_
  refine AWp.seq ?_
  refine AWp.region ?_
  obtain ⟨r24, e23, h⟩ := bindS h
  refine AOps.cc hT hA { tk := [3] } (by cbv) (lb rfl) (C56w hA e23) rfl (.inl rfl) rfl rfl rfl (lb rfl) rfl rfl ?_
  refine AOps.cd hT hA { tk := [3] } (by cbv) (lb rfl) ?_
  refine nT ?_
  refine AWp.ret ?_
  cases soI h
  exact ⟨rfl, rfl, rfl, lb rfl, _, rfl⟩

theorem C44bw {A : Ar} (hA : A = Ar.std) {x1 : List D} {x2 : List D} {x3 : List D} {v34 : List D} {v35 : Int} (h : C44b A x1 x2 x3 = some (v34, v35)) : ACall Try.prog 44 [(.d (.list 1 x1)), (.d (.list 1 x2)), (.d (.list 1 x3)), (.func 55 [] [])] [] (.tuple [(.d (.list 1 v34)), (.d (.int .i64 v35))]) [] := by
  unfold C44b at h
  refine ACall.enter hT (fn := Try.f44) Try.func44 rfl (by decide) (by simp [Try.f44]) rfl rfl rfl rfl (lb rfl) ?_
  refine AWp.seq ?_
  refine AWp.rg hT hA {} (by cbv) (lb rfl) ?_
  refine nT ?_
  refine AWp.seq ?_
  refine AWp.seq ?_
  refine AWp.region ?_
  obtain ⟨r5, e4, h⟩ := bindS h
  refine AOps.cc hT hA {} (by cbv) (lb rfl) (C89w hA e4) rfl (.inl rfl) rfl rfl rfl (lb rfl) rfl rfl ?_
  refine AOps.cd hT hA {} (by cbv) (lb rfl) ?_
  refine nT ?_
  refine AWp.seq ?_
  refine AWp.rg hT hA {} (by cbv) (lb rfl) ?_
  refine nT ?_
  rcases tf (A.zeq r5 0) with c6 | c6
  · replace h := cT c6 h
    refine AWp.cdF rfl (by first | rfl | simp only [c6, Bool.not_true, Bool.not_false, cond_true, cond_false]) ?_
    refine AWp.skip ?_
    refine nT ?_
    refine AWp.seq ?_
    refine AWp.region ?_
    obtain ⟨⟨r8, r9, r10, r11, r12, r13, r14, r15, r16, r17, r18, r19, r20, r21, r22, r23, r24, r25, r26, r27, r28, r29, r30⟩, e7, h⟩ := bindS h
    refine AOps.cc hT hA { tk := [24] } (by (repeat (cbv; simp only [c6])); first | done | cbv) (lb rfl) (C104w hA e7) rfl (.inl rfl) rfl rfl rfl (lb rfl) rfl rfl ?_
    refine AOps.cd hT hA { tk := [24] } (by (repeat (cbv; simp only [c6])); first | done | cbv) (lb rfl) ?_
    refine nT ?_
    refine AWp.seq ?_
    refine AWp.seq ?_
    refine AWp.rg hT hA {} (by (repeat (cbv; simp only [c6])); first | done | cbv) (lb rfl) ?_
    refine nT ?_
    rcases tf r30 with c31 | c31
    · replace h := cT c31 h
      refine AWp.cdF rfl (by first | rfl | simp only [c6, c31, Bool.not_true, Bool.not_false, cond_true, cond_false]) ?_
      refine AWp.skip ?_
      refine nT ?_
      refine AWp.seq ?_
      refine AWp.region ?_
      obtain ⟨r33, e32, h⟩ := bindS h
      refine AOps.cc hT hA {} (by (repeat (cbv; simp only [c6, c31])); first | done | cbv) (lb rfl) (C55w hA e32) rfl (.inl rfl) rfl rfl rfl (lb rfl) rfl rfl ?_
      refine AOps.cd hT hA {} (by (repeat (cbv; simp only [c6, c31])); first | done | cbv) (lb rfl) ?_
      refine nT ?_
      refine AWp.ret ?_
      cases soI h
      exact ⟨rfl, rfl, rfl, lb rfl, _, rfl⟩
    · replace h := cF c31 h
      refine AWp.cdT rfl (by first | rfl | simp only [c6, c31, Bool.not_true, Bool.not_false, cond_true, cond_false]) ?_
      refine AWp.seq ?_
      refine AWp.rg hT hA {} (by (repeat (cbv; simp only [c6, c31])); first | done | cbv) (lb rfl) ?_
      refine nT ?_
      refine AWp.ret ?_
      refine rT ?_
      cases soI h
      exact ⟨rfl, rfl, rfl, lb rfl, _, rfl⟩
  · replace h := cF c6 h
    refine AWp.cdT rfl (by first | rfl | simp only [c6, Bool.not_true, Bool.not_false, cond_true, cond_false]) ?_
    refine AWp.seq ?_
    refine AWp.rg hT hA {} (by (repeat (cbv; simp only [c6])); first | done | cbv) (lb rfl) ?_
    refine nT ?_
    refine AWp.ret ?_
    refine rT ?_
    cases soI h
    exact ⟨rfl, rfl, rfl, lb rfl, _, rfl⟩

theorem C20w {A : Ar} (hA : A = Ar.std) {x1 : List D} {x2 : List D} {x3 : List D} {v7 : List D} {v8 : Int} (h : C20 A x1 x2 x3 = some (v7, v8)) : ACall Try.prog 20 [(.d (.list 1 x1)), (.d (.list 1 x2)), (.d (.list 1 x3))] [] (.tuple [(.d (.list 1 v7)), (.d (.int .i64 v8))]) [] := by
  unfold C20 at h
  refine ACall.enter hT (fn := Try.f20) Try.func20 rfl (by decide) (by simp [Try.f20]) rfl rfl rfl rfl (lb rfl) ?_
  refine AWp.seq ?_
  refine AWp.rg hT hA {} (by cbv) (lb rfl) ?_
  refine nT ?_
  refine AWp.seq ?_
  refine AWp.region ?_
  obtain ⟨⟨r5, r6⟩, e4, h⟩ := bindS h
  refine AOps.cc hT hA {} (by cbv) (lb rfl) (C44bw hA e4) rfl (.inl rfl) rfl rfl rfl (lb rfl) rfl rfl ?_
  refine AOps.cd hT hA {} (by cbv) (lb rfl) ?_
  refine nT ?_
  refine AWp.ret ?_
  cases soI h
  exact ⟨rfl, rfl, rfl, lb rfl, _, rfl⟩

theorem C21w {A : Ar} (hA : A = Ar.std) {x1 : List D} {x2 : List D} {x3 : List D} {v45 : List D} {v46 : Int} (h : C21 A x1 x2 x3 = some (v45, v46)) : ACall Try.prog 21 [(.d (.list 1 x1)), (.d (.list 1 x2)), (.d (.list 1 x3))] [] (.tuple [(.d (.list 1 v45)), (.d (.int .i64 v46))]) [] := by
  unfold C21 at h
  refine ACall.enter hT (fn := Try.f21) Try.func21 rfl (by decide) (by simp [Try.f21]) rfl rfl rfl rfl (lb rfl) ?_
  refine AWp.seq ?_
  refine AWp.rg hT hA {} (by cbv) (lb rfl) ?_
  refine nT ?_
  refine AWp.seq ?_
  refine AWp.region ?_
  obtain ⟨q16, e4, h⟩ := bindS h
  rcases q16 with r5 | ⟨r6, r7, r8, r9, r10, r11, r12, r13, r14, r15⟩
  · replace h := (eL h)
    refine AOps.cc hT hA {} (by cbv) (lb rfl) (C46wa hA e4) rfl (.inl rfl) rfl rfl rfl (lb rfl) rfl rfl ?_
    refine AOps.cd hT hA {} (by cbv) (lb rfl) ?_
    refine nT ?_
    refine AWp.seq ?_
    refine AWp.seq ?_
    refine AWp.rg hT hA {} (by cbv) (lb rfl) ?_
    refine nT ?_
    rcases tf (A.zeq r5 0) with c17 | c17
    · replace h := cT c17 h
      refine AWp.cdF rfl (by first | rfl | simp only [c17, Bool.not_true, Bool.not_false, cond_true, cond_false]) ?_
      refine AWp.skip ?_
      refine nT ?_
      refine AWp.seq ?_
      refine AWp.rg hT hA {} (by (repeat (cbv; simp only [c17])); first | done | cbv) (lb rfl) ?_
      refine nT ?_
      refine AWp.seq ?_
      refine AWp.seq ?_
      refine AWp.rg hT hA {} (by (repeat (cbv; simp only [c17])); first | done | cbv) (lb rfl) ?_
      refine nT ?_
      refine AWp.block ?_
      obtain ⟨xK19, hxK19, K19, hK19, hkK19⟩ := bindK h
      refine AWp.cutX 0 [10] [] 0 (lb rfl) (fun τ => K19 () = some (v45, v46) ∧ τ = { env := [(10, (.own 1 []))], heap := [], n := 36 }) ?_ ?_
      · skip
        refine AWp.iter hxK19 [1, 8, 10, 11] [] 0 (lb rfl) (fun () => { env := [(1, (.d (.list 1 x2))), (8, .nilptr), (10, (.own 1 [])), (11, (.d (.int .i64 0)))], heap := [], n := 36 }) ⟨rfl, (by first | (cbv; done) | ((repeat (cbv; simp only [c17])); first | done | cbv))⟩ ?_
        rintro _ eK19 hsK19
        dsimp only [C21L0] at hsK19
        refine AWp.seq ?_
        refine AWp.seq ?_
        refine AWp.rg hT hA {} (by cbv) (lb rfl) ?_
        refine nT ?_
        rcases tf (A.zlt 0 (A.len x2)) with c18 | c18
        · replace hsK19 := cT c18 hsK19
          refine AWp.cdT rfl (by first | rfl | simp only [c18, Bool.not_true, Bool.not_false, cond_true, cond_false]) ?_
          refine AWp.skip ?_
          refine nT ?_
          refine AWp.seq ?_
          refine AWp.block ?_
          refine AWp.seq ?_
          refine AWp.region ?_
          cases hsK19
        · replace hsK19 := cF c18 hsK19
          refine AWp.cdF rfl (by first | rfl | simp only [c18, Bool.not_true, Bool.not_false, cond_true, cond_false]) ?_
          refine AWp.exit ?_
          refine xT ?_
          refine xT ?_
          refine exL hsK19 fun hx => ?_
          subst hx
          exact oxI ⟨rfl, hkK19, (by first | (cbv; done) | ((repeat (cbv; simp only [c18])); first | done | cbv))⟩
      · rintro _ ⟨hkK19, rfl⟩
        have h := (hK19 _ hkK19)
        refine xB ?_
        refine nT ?_
        refine AWp.seq ?_
        refine AWp.rg hT hA {} (by cbv) (lb rfl) ?_
        refine nT ?_
        refine AWp.ret ?_
        cases soI h
        exact ⟨rfl, rfl, rfl, lb rfl, _, rfl⟩
    · replace h := cF c17 h
      refine AWp.cdT rfl (by first | rfl | simp only [c17, Bool.not_true, Bool.not_false, cond_true, cond_false]) ?_
      refine AWp.seq ?_
      refine AWp.rg hT hA {} (by (repeat (cbv; simp only [c17])); first | done | cbv) (lb rfl) ?_
      refine nT ?_
      refine AWp.ret ?_
      refine rT ?_
      cases soI h
      exact ⟨rfl, rfl, rfl, lb rfl, _, rfl⟩
  · replace h := (eR h)
    refine AOps.cc hT hA {} (by cbv) (lb rfl) (C46wb hA e4) rfl (.inl rfl) rfl rfl rfl (lb rfl) rfl rfl ?_
    refine AOps.cd hT hA {} (by cbv) (lb rfl) ?_
    refine nT ?_
    refine AWp.seq ?_
    refine AWp.seq ?_
    have f20 := zeqF hA (a := 0) (b := 0) (c := true) rfl
    refine AWp.rg hT hA {} (by (repeat (cbv; simp only [f20])); first | done | cbv) (lb rfl) ?_
    refine nT ?_
    refine AWp.cdF rfl (by first | rfl | simp only [f20, Bool.not_true, Bool.not_false, cond_true, cond_false]) ?_
    refine AWp.skip ?_
    refine nT ?_
    refine AWp.seq ?_
    refine AWp.rg hT hA {} (by (repeat (cbv; simp only [f20])); first | done | cbv) (lb rfl) ?_
    refine nT ?_
    refine AWp.seq ?_
    refine AWp.seq ?_
    refine AWp.rg hT hA {} (by (repeat (cbv; simp only [f20])); first | done | cbv) (lb rfl) ?_
    refine nT ?_
    refine AWp.block ?_
    obtain ⟨xK44, hxK44, K44, hK44, hkK44⟩ := bindK h
    refine AWp.cutXW 0 (fun τ => ∃ v43, K44 v43 = some (v45, v46) ∧ τ = { env := [(10, (.own 1 v43))], heap := [], n := 36 }) ?_ ?_
    · skip
      refine AWp.iterW hxK44 (fun (v31, v32) => { env := [(1, (.d (.list 1 x2))), (8, (.ptr 0 0)), (10, (.own 1 v31)), (11, (.d (.int .i64 v32)))], heap := [(.cells [(.d (.list 1 r6)), (.d (.list 1 r7)), (.d (.list 1 r8)), (.gref 1 8), (.d (.int .i64 r9)), (.d (.int .i64 r10)), (.d (.int .i64 r11)), (.d (.int .i64 r12)), (.gref 4 6), (.gref 7 1)]), (.gro 8 r13), .dead, .dead, (.gro 6 r14), .dead, .dead, (.gro 1 r15), .dead, .dead], n := 36 }) ⟨_, Wk.ren [some 0, some 1, some 2, some 3, some 4, some 5, some 6, some 7, some 8, some 9] [1, 8, 10, 11] rfl (by first | (cbv; done) | ((repeat (cbv; simp only [f20])); first | done | cbv)), rfl⟩ ?_
      rintro ⟨v31, v32⟩ eK44 hsK44
      dsimp only [C21L1] at hsK44
      refine AWp.seq ?_
      refine AWp.seq ?_
      refine AWp.rg hT hA {} (by cbv) (lb rfl) ?_
      refine nT ?_
      rcases tf (A.zlt v32 (A.len x2)) with c33 | c33
      · replace hsK44 := cT c33 hsK44
        refine AWp.cdT rfl (by first | rfl | simp only [c33, Bool.not_true, Bool.not_false, cond_true, cond_false]) ?_
        refine AWp.skip ?_
        refine nT ?_
        refine AWp.seq ?_
        refine AWp.block ?_
        refine AWp.seq ?_
        refine AWp.region ?_
        obtain ⟨r35, e34, hsK44⟩ := bindS hsK44
        refine AOps.cc hT hA {} (by (repeat (cbv; simp only [c33])); first | done | cbv) (lb rfl) (C57w hA e34) rfl (.inl rfl) rfl rfl rfl (lb rfl) rfl rfl ?_
        refine AOps.cd hT hA {} (by (repeat (cbv; simp only [c33])); first | done | cbv) (lb rfl) ?_
        refine nT ?_
        obtain ⟨v41, hvK42, hsK44⟩ := bindS hsK44
        refine AWp.cutW (fun τ => τ = { env := [(1, (.d (.list 1 x2))), (8, (.ptr 0 0)), (10, (.own 1 v41)), (11, (.d (.int .i64 v32)))], heap := [(.cells [(.d (.list 1 r6)), (.d (.list 1 r7)), (.d (.list 1 r8)), (.gref 1 8), (.d (.int .i64 r9)), (.d (.int .i64 r10)), (.d (.int .i64 r11)), (.d (.int .i64 r12)), (.gref 4 6), (.gref 7 1)]), (.gro 8 r13), .dead, .dead, (.gro 6 r14), .dead, .dead, (.gro 1 r15), .dead, .dead], n := 36 }) ?_ ?_
        · skip
          rcases tf r35 with c36 | c36
          · replace hvK42 := cT c36 hvK42
            refine AWp.cdT rfl (by first | rfl | simp only [c33, c36, Bool.not_true, Bool.not_false, cond_true, cond_false]) ?_
            obtain ⟨l37, e38, hvK42⟩ := bindS hvK42
            obtain ⟨f39, f40⟩ := apI e38
            refine AWp.rg hT hA { tk := [10, 34] } (by (repeat (cbv; simp only [c33, c36, f39, f40])); first | done | cbv) (lb rfl) ?_
            cases soI hvK42
            exact oWi ⟨_, (Wk.ren [some 0, some 1, some 2, some 3, some 4, some 5, some 6, some 7, some 8, some 9] [1, 8, 10, 11] rfl (by first | (cbv; done) | ((repeat (cbv; simp only [c33, c36])); first | done | cbv))), rfl⟩
          · replace hvK42 := cF c36 hvK42
            refine AWp.cdF rfl (by first | rfl | simp only [c33, c36, Bool.not_true, Bool.not_false, cond_true, cond_false]) ?_
            refine AWp.skip ?_
            cases soI hvK42
            exact oWi ⟨_, (Wk.ren [some 0, some 1, some 2, some 3, some 4, some 5, some 6, some 7, some 8, some 9] [1, 8, 10, 11] rfl (by first | (cbv; done) | ((repeat (cbv; simp only [c33, c36])); first | done | cbv))), rfl⟩
        · rintro _ rfl
          refine nB ?_
          refine nT ?_
          refine AWp.rg hT hA {} (by cbv) (lb rfl) ?_
          exact nT ⟨_, (soI hsK44).symm, _, (Wk.ren [some 0, some 1, some 2, some 3, some 4, some 5, some 6, some 7, some 8, some 9] [1, 8, 10, 11] rfl (by cbv)), rfl⟩
      · replace hsK44 := cF c33 hsK44
        refine AWp.cdF rfl (by first | rfl | simp only [c33, Bool.not_true, Bool.not_false, cond_true, cond_false]) ?_
        refine AWp.exit ?_
        refine xT ?_
        refine xT ?_
        refine exL hsK44 fun hx => ?_
        subst hx
        exact oxWI ⟨_, (Wk.ren [] [10] rfl (by first | (cbv; done) | ((repeat (cbv; simp only [c33])); first | done | cbv))), _, hkK44, rfl⟩
    · rintro _ ⟨v43, hkK44, rfl⟩
      have h := (hK44 _ hkK44)
      refine xB ?_
      refine nT ?_
      refine AWp.seq ?_
      refine AWp.rg hT hA {} (by cbv) (lb rfl) ?_
      refine nT ?_
      refine AWp.ret ?_
      cases soI h
      exact ⟨rfl, rfl, rfl, lb rfl, _, rfl⟩

theorem C22w {A : Ar} (hA : A = Ar.std) {x1 : List D} {x2 : List D} {v26 : Bool} (h : C22 A x1 x2 = some v26) : ACall Try.prog 22 [(.d (.list 1 x1)), (.d (.list 1 x2))] [] (.d (.bool v26)) [] := by
  unfold C22 at h
  refine ACall.enter hT (fn := Try.f22) Try.func22 rfl (by decide) (by simp [Try.f22]) rfl rfl rfl rfl (lb rfl) ?_
  refine AWp.seq ?_
  refine AWp.rg hT hA {} (by cbv) (lb rfl) ?_
  refine nT ?_
  refine AWp.seq ?_
  refine AWp.seq ?_
  refine AWp.rg hT hA {} (by cbv) (lb rfl) ?_
  refine nT ?_
  rcases tf (A.zeq (A.len x1) (A.len x2)) with c3 | c3
  · replace h := cT c3 h
    refine AWp.cdF rfl (by first | rfl | simp only [c3, Bool.not_true, Bool.not_false, cond_true, cond_false]) ?_
    refine AWp.skip ?_
    refine nT ?_
    refine AWp.seq ?_
    refine AWp.seq ?_
    refine AWp.rg hT hA {} (by (repeat (cbv; simp only [c3])); first | done | cbv) (lb rfl) ?_
    refine nT ?_
    refine AWp.block ?_
    obtain ⟨xK25, hxK25, K25, hK25, hkK25⟩ := bindK h
    refine AWp.cutX 0 [] [] 0 (lb rfl) (fun τ => K25 (.inl ()) = some v26 ∧ τ = { env := [], heap := [], n := 26 }) ?_ ?_
    · skip
      refine AWp.iter hxK25 [0, 1, 5] [] 0 (lb rfl) (fun v14 => { env := [(0, (.d (.list 1 x1))), (1, (.d (.list 1 x2))), (5, (.d (.int .i64 v14)))], heap := [], n := 26 }) ⟨rfl, (by first | (cbv; done) | ((repeat (cbv; simp only [c3])); first | done | cbv))⟩ ?_
      rintro v14 eK25 hsK25
      dsimp only [C22L0] at hsK25
      refine AWp.seq ?_
      refine AWp.seq ?_
      refine AWp.rg hT hA {} (by cbv) (lb rfl) ?_
      refine nT ?_
      rcases tf (A.zlt v14 (A.len x1)) with c15 | c15
      · replace hsK25 := cT c15 hsK25
        refine AWp.cdT rfl (by first | rfl | simp only [c15, Bool.not_true, Bool.not_false, cond_true, cond_false]) ?_
        refine AWp.skip ?_
        refine nT ?_
        refine AWp.seq ?_
        refine AWp.block ?_
        refine AWp.seq ?_
        obtain ⟨a16, e17, hsK25⟩ := bindS hsK25
        obtain ⟨f18, f19⟩ := gtI e17
        obtain ⟨a20, e21, hsK25⟩ := bindS hsK25
        obtain ⟨f22, f23⟩ := gtI e21
        refine AWp.rd hT hA {} rfl (by (repeat (cbv; simp only [c15, f18, f19, f22, f23])); first | done | cbv) (by kernel_rfl) (lb rfl) ?_
        refine nT ?_
        rcases tf (A.zeq a16 a20) with c24 | c24
        · replace hsK25 := cT c24 hsK25
          refine AWp.cdF rfl (by first | rfl | simp only [c15, c24, Bool.not_true, Bool.not_false, cond_true, cond_false]) ?_
          refine AWp.skip ?_
          refine nB ?_
          refine nT ?_
          refine AWp.rg hT hA {} (by (repeat (cbv; simp only [c15, c24])); first | done | cbv) (lb rfl) ?_
          exact nT ⟨_, (soI hsK25).symm, rfl, (by first | (cbv; done) | ((repeat (cbv; simp only [c15, c24])); first | done | cbv))⟩
        · replace hsK25 := cF c24 hsK25
          refine AWp.cdT rfl (by first | rfl | simp only [c15, c24, Bool.not_true, Bool.not_false, cond_true, cond_false]) ?_
          refine AWp.seq ?_
          refine AWp.rg hT hA {} (by (repeat (cbv; simp only [c15, c24])); first | done | cbv) (lb rfl) ?_
          refine nT ?_
          refine AWp.ret ?_
          refine rB ?_
          refine rT ?_
          refine rT ?_
          refine exL hsK25 fun hx => ?_
          subst hx
          refine oxR ?_
          replace hkK25 := (eR (hK25 _ hkK25))
          refine rB ?_
          refine rT ?_
          cases soI hkK25
          exact ⟨rfl, rfl, rfl, lb rfl, _, rfl⟩
      · replace hsK25 := cF c15 hsK25
        refine AWp.cdF rfl (by first | rfl | simp only [c15, Bool.not_true, Bool.not_false, cond_true, cond_false]) ?_
        refine AWp.exit ?_
        refine xT ?_
        refine xT ?_
        refine exL hsK25 fun hx => ?_
        subst hx
        exact oxI ⟨rfl, hkK25, (by first | (cbv; done) | ((repeat (cbv; simp only [c15])); first | done | cbv))⟩
    · rintro _ ⟨hkK25, rfl⟩
      have h := (eL (hK25 _ hkK25))
      refine xB ?_
      refine nT ?_
      refine AWp.seq ?_
      refine AWp.rg hT hA {} (by cbv) (lb rfl) ?_
      refine nT ?_
      refine AWp.ret ?_
      cases soI h
      exact ⟨rfl, rfl, rfl, lb rfl, _, rfl⟩
  · replace h := cF c3 h
    refine AWp.cdT rfl (by first | rfl | simp only [c3, Bool.not_true, Bool.not_false, cond_true, cond_false]) ?_
    refine AWp.seq ?_
    refine AWp.rg hT hA {} (by (repeat (cbv; simp only [c3])); first | done | cbv) (lb rfl) ?_
    refine nT ?_
    refine AWp.ret ?_
    refine rT ?_
    cases soI h
    exact ⟨rfl, rfl, rfl, lb rfl, _, rfl⟩

theorem C3w {A : Ar} (hA : A = Ar.std) {x1 : Int} {x2 : Int} {x3 : List D} {x4 : List D} {x5 : List D} {x6 : List D} {x7 : List D} {v65 : Bool} (h : C3 A x1 x2 x3 x4 x5 x6 x7 = some v65) : ACall Try.prog 3 [(.d (.agg [(.int .i64 x1), (.int .i64 x2), (.list 1 x3), (.list 1 x4), (.list 1 x5), (.list 1 x6)])), (.d (.list 1 x7))] [] (.d (.bool v65)) [] := by
  unfold C3 at h
  refine ACall.enter hT (fn := Try.f3) Try.func3 rfl (by decide) (by simp [Try.f3]) rfl rfl rfl rfl (lb rfl) ?_
  refine AWp.seq ?_
  refine AWp.rg hT hA {} (by cbv) (lb rfl) ?_
  refine nT ?_
  refine AWp.seq ?_
  refine AWp.seq ?_
  obtain ⟨v11, hvK12, h⟩ := bindS h
  refine AWp.cutN [1, 2, 23] [] 0 (lb rfl) (fun τ => τ = { env := [(1, (.d (.list 1 x7))), (2, (.lbox [(.d (.int .i64 x1)), (.d (.int .i64 x2)), (.d (.list 1 x3)), (.d (.list 1 x4)), (.d (.list 1 x5)), (.d (.list 1 x6))])), (23, (.d (.bool v11)))], heap := [], n := 144 }) ?_ ?_
  · skip
    refine AWp.region ?_
    obtain ⟨r9, e8, hvK12⟩ := bindS hvK12
    refine AOps.cc hT hA {} (by cbv) (lb rfl) (C9w hA e8) rfl (.inl rfl) rfl rfl rfl (lb rfl) rfl rfl ?_
    rcases tf r9 with c10 | c10
    · replace hvK12 := cT c10 hvK12
      refine AOps.cd hT hA {} (by (repeat (cbv; simp only [c10])); first | done | cbv) (lb rfl) ?_
      cases soI hvK12
      exact oNi ⟨rfl, (by first | (cbv; done) | ((repeat (cbv; simp only [c10])); first | done | cbv))⟩
    · replace hvK12 := cF c10 hvK12
      refine AOps.cd hT hA {} (by (repeat (cbv; simp only [c10])); first | done | cbv) (lb rfl) ?_
      cases soI hvK12
      exact oNi ⟨rfl, (by first | (cbv; done) | ((repeat (cbv; simp only [c10])); first | done | cbv))⟩
  · rintro _ rfl
    refine nT ?_
    rcases tf v11 with c13 | c13
    · replace h := cT c13 h
      refine AWp.cdT rfl (by first | rfl | simp only [c13, Bool.not_true, Bool.not_false, cond_true, cond_false]) ?_
      refine AWp.seq ?_
      refine AWp.region ?_
      obtain ⟨r15, e14, h⟩ := bindS h
      refine AOps.cc hT hA { tk := [24] } (by (repeat (cbv; simp only [c13])); first | done | cbv) (lb rfl) (C10w hA e14) rfl (.inl rfl) rfl rfl rfl (lb rfl) rfl rfl ?_
      refine AOps.cd hT hA { tk := [24] } (by (repeat (cbv; simp only [c13])); first | done | cbv) (lb rfl) ?_
      refine nT ?_
      refine AWp.ret ?_
      refine rT ?_
      cases soI h
      exact ⟨rfl, rfl, rfl, lb rfl, _, rfl⟩
    · replace h := cF c13 h
      refine AWp.cdF rfl (by first | rfl | simp only [c13, Bool.not_true, Bool.not_false, cond_true, cond_false]) ?_
      refine AWp.skip ?_
      refine nT ?_
      refine AWp.seq ?_
      refine AWp.region ?_
      obtain ⟨⟨r17, r18⟩, e16, h⟩ := bindS h
      refine AOps.cc hT hA {} (by (repeat (cbv; simp only [c13])); first | done | cbv) (lb rfl) (C11w hA e16) rfl (.inl rfl) rfl rfl rfl (lb rfl) rfl rfl ?_
      refine AOps.cd hT hA {} (by (repeat (cbv; simp only [c13])); first | done | cbv) (lb rfl) ?_
      refine nT ?_
      refine AWp.seq ?_
      refine AWp.region ?_
      obtain ⟨⟨r20, r21⟩, e19, h⟩ := bindS h
      refine AOps.cc hT hA {} (by (repeat (cbv; simp only [c13])); first | done | cbv) (lb rfl) (C12w hA e19) rfl (.inl rfl) rfl rfl rfl (lb rfl) rfl rfl ?_
      refine AOps.cd hT hA {} (by (repeat (cbv; simp only [c13])); first | done | cbv) (lb rfl) ?_
      refine nT ?_
      refine AWp.seq ?_
      refine AWp.region ?_
      obtain ⟨⟨r23, r24⟩, e22, h⟩ := bindS h
      refine AOps.cc hT hA {} (by (repeat (cbv; simp only [c13])); first | done | cbv) (lb rfl) (C13w hA e22) rfl (.inl rfl) rfl rfl rfl (lb rfl) rfl rfl ?_
      refine AOps.cd hT hA {} (by (repeat (cbv; simp only [c13])); first | done | cbv) (lb rfl) ?_
      refine nT ?_
      refine AWp.seq ?_
      refine AWp.region ?_
      obtain ⟨⟨r26, r27⟩, e25, h⟩ := bindS h
      refine AOps.cc hT hA {} (by (repeat (cbv; simp only [c13])); first | done | cbv) (lb rfl) (C14w hA e25) rfl (.inl rfl) rfl rfl rfl (lb rfl) rfl rfl ?_
      refine AOps.cd hT hA {} (by (repeat (cbv; simp only [c13])); first | done | cbv) (lb rfl) ?_
      refine nT ?_
      refine AWp.seq ?_
      refine AWp.seq ?_
      obtain ⟨v38, hvK39, h⟩ := bindS h
      refine AWp.cutN [1, 2, 86] [] 0 (lb rfl) (fun τ => τ = { env := [(1, (.d (.list 1 x7))), (2, (.lbox [(.d (.int .i64 x1)), (.d (.int .i64 x2)), (.d (.list 1 x3)), (.d (.list 1 x4)), (.d (.list 1 x5)), (.d (.list 1 x6))])), (86, (.d (.bool v38)))], heap := [], n := 144 }) ?_ ?_
      · skip
        refine AWp.regionDraw rfl (lb rfl) ?_
        obtain ⟨r29, e28, hvK39⟩ := bindS hvK39
        refine DOps.c0 hT hA {} rfl (by (repeat (cbv; simp only [c13])); first | done | cbv) (C15w hA e28) rfl rfl (lb rfl) rfl rfl ?_
        obtain ⟨r31, e30, hvK39⟩ := bindS hvK39
        refine DOps.c0 hT hA {} rfl (by (repeat (cbv; simp only [c13])); first | done | cbv) (C16w hA e30) rfl rfl (lb rfl) rfl rfl ?_
        rcases tf (A.beq r29 r31) with c32 | c32
        · replace hvK39 := cT c32 hvK39
          rcases tf (A.beq r17 r20) with c33 | c33
          · replace hvK39 := cT c33 hvK39
            rcases tf (A.zeq r18 r21) with c34 | c34
            · replace hvK39 := cT c34 hvK39
              obtain ⟨r36, e35, hvK39⟩ := bindS hvK39
              refine DOps.c0 hT hA {} rfl (by (repeat (cbv; simp only [c13, c32, c33, c34])); first | done | cbv) (C17w hA e35) rfl rfl (lb rfl) rfl rfl ?_
              rcases tf r36 with c37 | c37
              · replace hvK39 := cT c37 hvK39
                refine DOps.cd hT hA {} rfl (by (repeat (cbv; simp only [c13, c32, c33, c34, c37])); first | done | cbv) (by kernel_rfl) ?_
                cases soI hvK39
                exact oNi ⟨rfl, (by first | (cbv; done) | ((repeat (cbv; simp only [c13, c32, c33, c34, c37])); first | done | cbv))⟩
              · replace hvK39 := cF c37 hvK39
                refine DOps.cd hT hA {} rfl (by (repeat (cbv; simp only [c13, c32, c33, c34, c37])); first | done | cbv) (by kernel_rfl) ?_
                cases soI hvK39
                exact oNi ⟨rfl, (by first | (cbv; done) | ((repeat (cbv; simp only [c13, c32, c33, c34, c37])); first | done | cbv))⟩
            · replace hvK39 := cF c34 hvK39
              refine DOps.cd hT hA {} rfl (by (repeat (cbv; simp only [c13, c32, c33, c34])); first | done | cbv) (by kernel_rfl) ?_
              cases soI hvK39
              exact oNi ⟨rfl, (by first | (cbv; done) | ((repeat (cbv; simp only [c13, c32, c33, c34])); first | done | cbv))⟩
          · replace hvK39 := cF c33 hvK39
            refine DOps.cd hT hA {} rfl (by (repeat (cbv; simp only [c13, c32, c33])); first | done | cbv) (by kernel_rfl) ?_
            cases soI hvK39
            exact oNi ⟨rfl, (by first | (cbv; done) | ((repeat (cbv; simp only [c13, c32, c33])); first | done | cbv))⟩
        · replace hvK39 := cF c32 hvK39
          refine DOps.cd hT hA {} rfl (by (repeat (cbv; simp only [c13, c32])); first | done | cbv) (by kernel_rfl) ?_
          cases soI hvK39
          exact oNi ⟨rfl, (by first | (cbv; done) | ((repeat (cbv; simp only [c13, c32])); first | done | cbv))⟩
      · rintro _ rfl
        refine nT ?_
        rcases tf v38 with c40 | c40
        · replace h := cT c40 h
          refine AWp.cdT rfl (by first | rfl | simp only [c40, Bool.not_true, Bool.not_false, cond_true, cond_false]) ?_
          refine AWp.seq ?_
          refine AWp.rg hT hA {} (by (repeat (cbv; simp only [c40])); first | done | cbv) (lb rfl) ?_
          refine nT ?_
          refine AWp.ret ?_
          refine rT ?_
          cases soI h
          exact ⟨rfl, rfl, rfl, lb rfl, _, rfl⟩
        · replace h := cF c40 h
          refine AWp.cdF rfl (by first | rfl | simp only [c40, Bool.not_true, Bool.not_false, cond_true, cond_false]) ?_
          refine AWp.skip ?_
          refine nT ?_
          refine AWp.seq ?_
          refine AWp.region ?_
          obtain ⟨⟨r42, r43⟩, e41, h⟩ := bindS h
          refine AOps.cc hT hA {} (by (repeat (cbv; simp only [c40])); first | done | cbv) (lb rfl) (C18w hA e41) rfl (.inl rfl) rfl rfl rfl (lb rfl) rfl rfl ?_
          refine AOps.cd hT hA {} (by (repeat (cbv; simp only [c40])); first | done | cbv) (lb rfl) ?_
          refine nT ?_
          refine AWp.seq ?_
          refine AWp.region ?_
          obtain ⟨⟨r45, r46⟩, e44, h⟩ := bindS h
          refine AOps.cc hT hA {} (by (repeat (cbv; simp only [c40])); first | done | cbv) (lb rfl) (C19w hA e44) rfl (.inl rfl) rfl rfl rfl (lb rfl) rfl rfl ?_
          refine AOps.cd hT hA {} (by (repeat (cbv; simp only [c40])); first | done | cbv) (lb rfl) ?_
          refine nT ?_
          refine AWp.seq ?_
          refine AWp.region ?_
          obtain ⟨⟨r48, r49⟩, e47, h⟩ := bindS h
          refine AOps.cc hT hA {} (by (repeat (cbv; simp only [c40])); first | done | cbv) (lb rfl) (C20w hA e47) rfl (.inl rfl) rfl rfl rfl (lb rfl) rfl rfl ?_
          refine AOps.cd hT hA {} (by (repeat (cbv; simp only [c40])); first | done | cbv) (lb rfl) ?_
          refine nT ?_
          refine AWp.seq ?_
          refine AWp.region ?_
          obtain ⟨⟨r51, r52⟩, e50, h⟩ := bindS h
          refine AOps.cc hT hA {} (by (repeat (cbv; simp only [c40])); first | done | cbv) (lb rfl) (C21w hA e50) rfl (.inl rfl) rfl rfl rfl (lb rfl) rfl rfl ?_
          refine AOps.cd hT hA {} (by (repeat (cbv; simp only [c40])); first | done | cbv) (lb rfl) ?_
          refine nT ?_
          refine AWp.seq ?_
          obtain ⟨v63, hvK64, h⟩ := bindS h
          refine AWp.cutN [4] [] 0 (lb rfl) (fun τ => τ = { env := [(4, (.d (.bool v63)))], heap := [], n := 144 }) ?_ ?_
          · skip
            refine AWp.region ?_
            obtain ⟨r54, e53, hvK64⟩ := bindS hvK64
            refine AOps.cc hT hA { tk := [143] } (by (repeat (cbv; simp only [c40])); first | done | cbv) (lb rfl) (C22w hA e53) rfl (.inl rfl) rfl rfl rfl (lb rfl) rfl rfl ?_
            rcases tf r54 with c55 | c55
            · replace hvK64 := cT c55 hvK64
              rcases tf (A.zeq r43 r46) with c56 | c56
              · replace hvK64 := cT c56 hvK64
                obtain ⟨r58, e57, hvK64⟩ := bindS hvK64
                refine AOps.cc hT hA { tk := [143] } (by (repeat (cbv; simp only [c40, c55, c56])); first | done | cbv) (lb rfl) (C22w hA e57) rfl (.inl rfl) rfl rfl rfl (lb rfl) rfl rfl ?_
                rcases tf r58 with c59 | c59
                · replace hvK64 := cT c59 hvK64
                  rcases tf (A.zeq r49 r52) with c60 | c60
                  · replace hvK64 := cT c60 hvK64
                    obtain ⟨r62, e61, hvK64⟩ := bindS hvK64
                    refine AOps.cc hT hA { tk := [143] } (by (repeat (cbv; simp only [c40, c55, c56, c59, c60])); first | done | cbv) (lb rfl) (C10w hA e61) rfl (.inl rfl) rfl rfl rfl (lb rfl) rfl rfl ?_
                    refine AOps.cd hT hA { tk := [143] } (by (repeat (cbv; simp only [c40, c55, c56, c59, c60])); first | done | cbv) (lb rfl) ?_
                    cases soI hvK64
                    exact oNi ⟨rfl, (by first | (cbv; done) | ((repeat (cbv; simp only [c40, c55, c56, c59, c60])); first | done | cbv))⟩
                  · replace hvK64 := cF c60 hvK64
                    refine AOps.cd hT hA { tk := [143] } (by (repeat (cbv; simp only [c40, c55, c56, c59, c60])); first | done | cbv) (lb rfl) ?_
                    cases soI hvK64
                    exact oNi ⟨rfl, (by first | (cbv; done) | ((repeat (cbv; simp only [c40, c55, c56, c59, c60])); first | done | cbv))⟩
                · replace hvK64 := cF c59 hvK64
                  refine AOps.cd hT hA { tk := [143] } (by (repeat (cbv; simp only [c40, c55, c56, c59])); first | done | cbv) (lb rfl) ?_
                  cases soI hvK64
                  exact oNi ⟨rfl, (by first | (cbv; done) | ((repeat (cbv; simp only [c40, c55, c56, c59])); first | done | cbv))⟩
              · replace hvK64 := cF c56 hvK64
                refine AOps.cd hT hA { tk := [143] } (by (repeat (cbv; simp only [c40, c55, c56])); first | done | cbv) (lb rfl) ?_
                cases soI hvK64
                exact oNi ⟨rfl, (by first | (cbv; done) | ((repeat (cbv; simp only [c40, c55, c56])); first | done | cbv))⟩
            · replace hvK64 := cF c55 hvK64
              refine AOps.cd hT hA { tk := [143] } (by (repeat (cbv; simp only [c40, c55])); first | done | cbv) (lb rfl) ?_
              cases soI hvK64
              exact oNi ⟨rfl, (by first | (cbv; done) | ((repeat (cbv; simp only [c40, c55])); first | done | cbv))⟩
          · rintro _ rfl
            refine nT ?_
            refine AWp.ret ?_
            cases soI h
            exact ⟨rfl, rfl, rfl, lb rfl, _, rfl⟩
end Go.Am
