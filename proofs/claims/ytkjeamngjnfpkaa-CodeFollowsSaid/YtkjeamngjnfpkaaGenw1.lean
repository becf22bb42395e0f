/- Own text: Genw1. -/
import Derived.Test.YtkjeamngjnfpkaaGenw0
set_option maxRecDepth 100000
set_option maxHeartbeats 2000000
set_option linter.unusedVariables false
set_option linter.unusedSimpArgs false
namespace Go.Am
open Go Go.Proofs
theorem C76w {A : Ar} (hA : A = Ar.std) {x1 : List D} {x2 : List D} {x3 : List D} {v10 : List D} {v11 : List D} {v12 : List D} {v13 : List D} (h : C76 A x1 x2 x3 = some (v10, v11, v12, v13)) : ACall Try.prog 76 [(.d (.list 1 x1)), (.d (.list 1 x2)), (.d (.list 1 x3))] [] (.ptr 0 0) [(.cells [(.d (.list 1 v10)), (.d (.list 1 v11)), (.d (.list 1 v12)), (.gref 1 8), (.d (.int .i64 0)), (.d (.int .i64 0)), (.d (.int .i64 0)), (.d (.int .i64 0)), (.gref 4 6), (.gref 7 1)]), (.gro 8 v13), .dead, .dead, (.gro 6 []), .dead, .dead, (.gro 1 []), .dead, .dead] := by
 unfold C76 at h
 refine ACall.enter hT (fn := Try.f76) Try.func76 rfl (by decide) (by simp [Try.f76]) rfl rfl rfl rfl (lb rfl) ?_
 refine zs ?_
 refine zg hT hA {} (by cbv) (lb rfl) ?_
 refine nT ?_
 refine zs ?_
 obtain ⟨_, e7, h⟩ := bindS h
 have f4 := ckI e7
 obtain ⟨_, e8, h⟩ := bindS h
 have f5 := ckI e8
 obtain ⟨_, e9, h⟩ := bindS h
 have f6 := ckI e9
 refine zg hT hA { tk := [14], esc := [14], gr := [12], nl := [13] } (by (repeat (cbv; simp only [f4, f5, f6])); first | done | cbv) (lb rfl) ?_
 refine nT ?_
 refine AWp.weak (Wk.settle 3 8 rfl rfl rfl) ?_
 refine AWp.weak (Wk.settle 3 9 rfl rfl rfl) ?_
 refine AWp.weak (Wk.ren [some 3, some 0, some 1, some 2, some 4, some 5, some 6, some 7, some 8, some 9] [6] rfl rfl) ?_
 refine zr ?_
 cases soI h
 exact ⟨rfl, rfl, rfl, lb rfl, _, rfl⟩

theorem C57w {A : Ar} (hA : A = Ar.std) {x1 : Int} {x2 : List D} {x3 : List D} {x4 : List D} {x5 : Int} {x6 : Int} {x7 : Int} {x8 : Int} {x9 : List D} {x10 : List D} {x11 : List D} {v37 : Bool} (h : C57 A x1 x2 x3 x4 x5 x6 x7 x8 x9 x10 x11 = some v37) : ACall Try.prog 57 [(.ptr 0 0), (.d (.int .i64 x1))] [(.cells [(.d (.list 1 x2)), (.d (.list 1 x3)), (.d (.list 1 x4)), (.gref 1 8), (.d (.int .i64 x5)), (.d (.int .i64 x6)), (.d (.int .i64 x7)), (.d (.int .i64 x8)), (.gref 4 6), (.gref 7 1)]), (.gro 8 x9), .dead, .dead, (.gro 6 x10), .dead, .dead, (.gro 1 x11), .dead, .dead] (.d (.bool v37)) [(.cells [(.d (.list 1 x2)), (.d (.list 1 x3)), (.d (.list 1 x4)), (.gref 1 8), (.d (.int .i64 x5)), (.d (.int .i64 x6)), (.d (.int .i64 x7)), (.d (.int .i64 x8)), (.gref 4 6), (.gref 7 1)]), (.gro 8 x9), .dead, .dead, (.gro 6 x10), .dead, .dead, (.gro 1 x11), .dead, .dead] := by
 unfold C57 at h
 refine ACall.enter hT (fn := Try.f57) Try.func57 rfl (by decide) (by simp [Try.f57]) rfl rfl rfl rfl (lb rfl) ?_
 refine zs ?_
 refine zg hT hA {} (by cbv) (lb rfl) ?_
 refine nT ?_
 refine zs ?_
 obtain ⟨v35, hvK36, h⟩ := bindS h
 refine AWp.cutW (fun τ => τ = { env := [(4, (.d (.bool v35)))], heap := [(.cells [(.d (.list 1 x2)), (.d (.list 1 x3)), (.d (.list 1 x4)), (.gref 1 8), (.d (.int .i64 x5)), (.d (.int .i64 x6)), (.d (.int .i64 x7)), (.d (.int .i64 x8)), (.gref 4 6), (.gref 7 1)]), (.gro 8 x9), .dead, .dead, (.gro 6 x10), .dead, .dead, (.gro 1 x11), .dead, .dead], n := 32 }) ?_ ?_
 ·skip
  obtain ⟨_, e12, hvK36⟩ := bindS hvK36
  have f14 := ckI e12
  obtain ⟨_, e13, hvK36⟩ := bindS hvK36
  have f15 := ckI e13
  obtain ⟨⟨a16, a17, a18, a19, a20, a21, a22, a23⟩, e24, hvK36⟩ := bindS hvK36
  have f25 := gcI e24
  rcases tf a18 with c26 | c26
  ·replace hvK36 := cT c26 hvK36
   refine AWp.rd hT hA { tk := [31] } rfl (by (repeat (cbv; simp only [c26, f14, f15, f25])); first | done | cbv) (by kernel_rfl) (lb rfl) ?_
   cases soI hvK36
   exact oWi ⟨_, (Wk.ren [some 0, some 1, some 2, some 3, some 4, some 5, some 6, some 7, some 8, some 9] [4] rfl (by first | (cbv; done) | ((repeat (cbv; simp only [c26])); first | done | cbv))), rfl⟩
  ·replace hvK36 := cF c26 hvK36
   obtain ⟨_, e27, hvK36⟩ := bindS hvK36
   have f29 := ckI e27
   obtain ⟨_, e28, hvK36⟩ := bindS hvK36
   have f30 := ckI e28
   obtain ⟨a31, e32, hvK36⟩ := bindS hvK36
   obtain ⟨f33, f34⟩ := gtI e32
   refine AWp.rd hT hA { tk := [31] } rfl (by (repeat (cbv; simp only [c26, f14, f15, f25, f29, f30, f33, f34])); first | done | cbv) (by kernel_rfl) (lb rfl) ?_
   cases soI hvK36
   exact oWi ⟨_, (Wk.ren [some 0, some 1, some 2, some 3, some 4, some 5, some 6, some 7, some 8, some 9] [4] rfl (by first | (cbv; done) | ((repeat (cbv; simp only [c26])); first | done | cbv))), rfl⟩
 ·rintro _ rfl
  refine nT ?_
  refine zr ?_
  cases soI h
  exact ⟨rfl, rfl, rfl, lb rfl, _, rfl⟩

theorem C78w {A : Ar} (hA : A = Ar.std) {x1 : Int} {x2 : List D} {x3 : List D} {x4 : List D} {x5 : Int} {x6 : Int} {x7 : Int} {x8 : Int} {x9 : List D} {x10 : List D} {x11 : List D} {v342 : List D} {v343 : List D} {v344 : List D} {v345 : Int} {v346 : Int} {v347 : Int} {v348 : Int} {v349 : List D} {v350 : List D} {v351 : List D} (h : C78 A x1 x2 x3 x4 x5 x6 x7 x8 x9 x10 x11 = some (v342, v343, v344, v345, v346, v347, v348, v349, v350, v351)) : ACall Try.prog 78 [(.ptr 0 0), (.d (.int .i64 x1))] [(.cells [(.d (.list 1 x2)), (.d (.list 1 x3)), (.d (.list 1 x4)), (.gref 1 8), (.d (.int .i64 x5)), (.d (.int .i64 x6)), (.d (.int .i64 x7)), (.d (.int .i64 x8)), (.gref 4 6), (.gref 7 1)]), (.gro 8 x9), .dead, .dead, (.gro 6 x10), .dead, .dead, (.gro 1 x11), .dead, .dead] (.tuple []) [(.cells [(.d (.list 1 v342)), (.d (.list 1 v343)), (.d (.list 1 v344)), (.gref 10 8), (.d (.int .i64 v345)), (.d (.int .i64 v346)), (.d (.int .i64 v347)), (.d (.int .i64 v348)), (.gref 13 6), (.gref 16 1)]), .dead, .dead, .dead, .dead, .dead, .dead, .dead, .dead, .dead, (.gro 8 v349), .dead, .dead, (.gro 6 v350), .dead, .dead, (.gro 1 v351), .dead, .dead] := by
 unfold C78 at h
 refine ACall.enter hT (fn := Try.f78) Try.func78 rfl (by decide) (by simp [Try.f78]) rfl rfl rfl rfl (lb rfl) ?_
 refine zs ?_
 obtain ⟨_, e12, h⟩ := bindS h
 have f14 := ckI e12
 obtain ⟨_, e13, h⟩ := bindS h
 have f15 := ckI e13
 refine zg hT hA {} (by (repeat (cbv; simp only [f14, f15])); first | done | cbv) (lb rfl) ?_
 refine nT ?_
 refine zs ?_
 refine zg hT hA { tk := [20] } (by cbv) (lb rfl) ?_
 refine nT ?_
 refine zs ?_
 refine zg hT hA {} (by cbv) (lb rfl) ?_
 refine nT ?_
 refine zs ?_
 refine zs ?_
 obtain ⟨⟨a16, a17, a18, a19, a20, a21, a22, a23⟩, e24, h⟩ := bindS h
 have f25 := gcI e24
 refine zg hT hA {} (by (repeat (cbv; simp only [f25])); first | done | cbv) (lb rfl) ?_
 refine nT ?_
 obtain ⟨⟨v53, v54, v55⟩, hvK56, h⟩ := bindS h
 refine AWp.cutW (fun τ => τ = { env := [(0, (.ptr 0 0)), (4, (.eptr 10 8 x1 0)), (5, (.d (.int .i64 x5)))], heap := [(.cells [(.d (.list 1 x2)), (.d (.list 1 x3)), (.d (.list 1 x4)), (.gref 10 8), (.d (.int .i64 (A.wrp .i64 (A.zadd x5 1)))), (.d (.int .i64 x6)), (.d (.int .i64 x7)), (.d (.int .i64 x8)), (.gref 13 6), (.gref 16 1)]), .dead, .dead, .dead, .dead, .dead, .dead, .dead, .dead, .dead, (.gro 8 v53), .dead, .dead, (.gro 6 v54), .dead, .dead, (.gro 1 v55), .dead, .dead], n := 285 }) ?_ ?_
 ·skip
  rcases tf a18 with c26 | c26
  ·replace hvK56 := cT c26 hvK56
   refine zf rfl (by first | rfl | simp only [c26, zqa, zqb, zqc, zqd]) ?_
   refine zk ?_
   cases soI hvK56
   exact oWi ⟨_, (Wk.ren [some 0, none, none, none, none, none, none, none, none, none, some 1, some 2, some 3, some 4, some 5, some 6, some 7, some 8, some 9] [0, 4, 5] rfl (by first | (cbv; done) | ((repeat (cbv; simp only [c26])); first | done | cbv))), rfl⟩
  ·replace hvK56 := cF c26 hvK56
   refine zt rfl (by first | rfl | simp only [c26, zqa, zqb, zqc, zqd]) ?_
   refine zs ?_
   refine AWp.rd hT hA { tk := [45] } rfl (by (repeat (cbv; simp only [c26, f25])); first | done | cbv) (by kernel_rfl) (lb rfl) ?_
   refine nT ?_
   refine zs ?_
   obtain ⟨a27, e28, hvK56⟩ := bindS hvK56
   obtain ⟨f29, f30⟩ := gtI e28
   obtain ⟨⟨a31, a32, a33, a34, a35, a36, a37, a38⟩, e39, hvK56⟩ := bindS hvK56
   have f40 := gcI e39
   obtain ⟨a41, e42, hvK56⟩ := bindS hvK56
   obtain ⟨f43, f44⟩ := gtI e42
   obtain ⟨l45, e46, hvK56⟩ := bindS hvK56
   obtain ⟨f47, f48⟩ := apI e46
   refine AWp.rd hT hA { tk := [51, 72] } rfl (by (repeat (cbv; simp only [c26, f29, f30, f40, f43, f44, f47, f48])); first | done | cbv) (by kernel_rfl) (lb rfl) ?_
   refine nT ?_
   refine AWp.weak (Wk.settle 0 8 rfl rfl rfl) ?_
   obtain ⟨l49, e50, hvK56⟩ := bindS hvK56
   obtain ⟨f51, f52⟩ := apI e50
   refine zg hT hA { tk := [79, 81] } (by (repeat (cbv; simp only [c26, f51, f52])); first | done | cbv) (lb rfl) ?_
   cases soI hvK56
   exact oWi ⟨_, (Wk.trans (Wk.settle 0 9 rfl rfl rfl) (Wk.ren [some 0, none, none, none, some 4, some 5, some 6, some 7, some 8, some 9, some 1, some 2, some 3, some 10, some 11, some 12, some 13, some 14, some 15] [0, 4, 5] rfl (by first | (cbv; done) | ((repeat (cbv; simp only [c26])); first | done | cbv)))), rfl⟩
 ·rintro _ rfl
  refine nT ?_
  refine zs ?_
  obtain ⟨⟨a57, a58, a59, a60, a61, a62, a63, a64⟩, e65, h⟩ := bindS h
  have f66 := gcI e65
  obtain ⟨_, e67, h⟩ := bindS h
  have f69 := ckI e67
  obtain ⟨_, e68, h⟩ := bindS h
  have f70 := ckI e68
  obtain ⟨⟨a71, a72, a73, a74, a75, a76⟩, e77, h⟩ := bindS h
  have f78 := gcI e77
  refine AWp.rd hT hA {} rfl (by (repeat (cbv; simp only [f66, f69, f70, f78])); first | done | cbv) (by kernel_rfl) (lb rfl) ?_
  refine nT ?_
  refine zs ?_
  refine zg hT hA {} (by (repeat (cbv; simp only [f66])); first | done | cbv) (lb rfl) ?_
  refine nT ?_
  refine zs ?_
  obtain ⟨a79, e80, h⟩ := bindS h
  obtain ⟨f81, f82⟩ := gtI e80
  obtain ⟨⟨a83, a84, a85, a86⟩, e87, h⟩ := bindS h
  obtain ⟨f88, f89⟩ := gtI e87
  refine zg hT hA { tk := [108] } (by (repeat (cbv; simp only [f81, f82, f88, f89])); first | done | cbv) (lb rfl) ?_
  refine nT ?_
  refine zs ?_
  refine zg hT hA {} (by (repeat (cbv; simp only [f66])); first | done | cbv) (lb rfl) ?_
  refine nT ?_
  refine zs ?_
  refine zg hT hA {} (by cbv) (lb rfl) ?_
  refine nT ?_
  refine zs ?_
  refine zs ?_
  refine zg hT hA {} (by cbv) (lb rfl) ?_
  refine nT ?_
  refine zb ?_
  refine zs ?_
  refine zg hT hA {} (by cbv) (lb rfl) ?_
  refine nT ?_
  obtain ⟨⟨v309, v310, v311, v312, v313⟩, hvK314, h⟩ := bindS h
  refine AWp.cutW (fun τ => τ = { env := [(0, (.ptr 0 0)), (4, (.eptr 10 8 x1 0)), (5, (.d (.int .i64 x5))), (6, (.d (.int .i64 a73))), (7, (.d (.int .i64 a58)))], heap := [(.cells [(.d (.list 1 x2)), (.d (.list 1 x3)), (.d (.list 1 x4)), (.gref 10 8), (.d (.int .i64 (A.wrp .i64 (A.zadd x5 1)))), (.d (.int .i64 v309)), (.d (.int .i64 v310)), (.d (.int .i64 v311)), (.gref 13 6), (.gref 16 1)]), .dead, .dead, .dead, .dead, .dead, .dead, .dead, .dead, .dead, (.gro 8 v312), .dead, .dead, (.gro 6 v313), .dead, .dead, (.gro 1 v55), .dead, .dead], n := 285 }) ?_ ?_
  ·skip
   rcases tf (A.zeq a83 1) with c90 | c90
   ·replace hvK314 := cT c90 hvK314
    refine zt rfl (by first | rfl | simp only [c90, zqa, zqb, zqc, zqd]) ?_
    obtain ⟨_, e91, hvK314⟩ := bindS hvK314
    have f93 := ckI e91
    obtain ⟨_, e92, hvK314⟩ := bindS hvK314
    have f94 := ckI e92
    obtain ⟨a95, e96, hvK314⟩ := bindS hvK314
    have f97 := gcI e96
    obtain ⟨_, e98, hvK314⟩ := bindS hvK314
    have f100 := ckI e98
    obtain ⟨_, e99, hvK314⟩ := bindS hvK314
    have f101 := ckI e99
    obtain ⟨⟨a102, a103, a104, a105, a106, a107, a108, a109⟩, e110, hvK314⟩ := bindS hvK314
    have f111 := gcI e110
    refine AWp.rd hT hA { tk := [130], vx := [129, 132] } rfl (by (repeat (cbv; simp only [c90, f93, f94, f97, f100, f101, f111])); first | done | cbv) (by kernel_rfl) (lb rfl) ?_
    cases soI hvK314
    exact oWi ⟨_, (Wk.ren [some 0, some 1, some 2, some 3, some 4, some 5, some 6, some 7, some 8, some 9, some 10, some 11, some 12, some 13, some 14, some 15, some 16, some 17, some 18] [0, 4, 5, 6, 7] rfl (by first | (cbv; done) | ((repeat (cbv; simp only [c90])); first | done | cbv))), rfl⟩
   ·replace hvK314 := cF c90 hvK314
    refine zf rfl (by first | rfl | simp only [c90, zqa, zqb, zqc, zqd]) ?_
    refine zs ?_
    refine zg hT hA {} (by (repeat (cbv; simp only [c90])); first | done | cbv) (lb rfl) ?_
    refine nT ?_
    obtain ⟨⟨v303, v304, v305, v306, v307⟩, hvK308, hvK314⟩ := bindS hvK314
    refine AWp.cutW (fun τ => τ = { env := [(0, (.ptr 0 0)), (4, (.eptr 10 8 x1 0)), (5, (.d (.int .i64 x5))), (6, (.d (.int .i64 a73))), (7, (.d (.int .i64 a58)))], heap := [(.cells [(.d (.list 1 x2)), (.d (.list 1 x3)), (.d (.list 1 x4)), (.gref 10 8), (.d (.int .i64 (A.wrp .i64 (A.zadd x5 1)))), (.d (.int .i64 v303)), (.d (.int .i64 v304)), (.d (.int .i64 v305)), (.gref 13 6), (.gref 16 1)]), .dead, .dead, .dead, .dead, .dead, .dead, .dead, .dead, .dead, (.gro 8 v306), .dead, .dead, (.gro 6 v307), .dead, .dead, (.gro 1 v55), .dead, .dead], n := 285 }) ?_ ?_
    ·skip
     rcases tf (A.zeq a83 2) with c112 | c112
     ·replace hvK308 := cT c112 hvK308
      refine zt rfl (by first | rfl | simp only [c90, c112, zqa, zqb, zqc, zqd]) ?_
      obtain ⟨_, e113, hvK308⟩ := bindS hvK308
      have f115 := ckI e113
      obtain ⟨_, e114, hvK308⟩ := bindS hvK308
      have f116 := ckI e114
      obtain ⟨⟨a120, a121, a122, a123, a124, a125, a126, a127⟩, e128, hvK308⟩ := bindS hvK308
      have f129 := gcI e128
      obtain ⟨a117, e118, hvK308⟩ := bindS hvK308
      have f119 := gcI e118
      obtain ⟨_, e130, hvK308⟩ := bindS hvK308
      have f132 := ckI e130
      obtain ⟨_, e131, hvK308⟩ := bindS hvK308
      have f133 := ckI e131
      refine AWp.rd hT hA { tk := [143], vx := [142, 146] } rfl (by (repeat (cbv; simp only [c90, c112, f115, f116, f129, f119, f132, f133])); first | done | cbv) (by kernel_rfl) (lb rfl) ?_
      cases soI hvK308
      exact oWi ⟨_, (Wk.ren [some 0, some 1, some 2, some 3, some 4, some 5, some 6, some 7, some 8, some 9, some 10, some 11, some 12, some 13, some 14, some 15, some 16, some 17, some 18] [0, 4, 5, 6, 7] rfl (by first | (cbv; done) | ((repeat (cbv; simp only [c90, c112])); first | done | cbv))), rfl⟩
     ·replace hvK308 := cF c112 hvK308
      refine zf rfl (by first | rfl | simp only [c90, c112, zqa, zqb, zqc, zqd]) ?_
      refine zs ?_
      refine zg hT hA {} (by (repeat (cbv; simp only [c90, c112])); first | done | cbv) (lb rfl) ?_
      refine nT ?_
      obtain ⟨⟨v297, v298, v299, v300, v301⟩, hvK302, hvK308⟩ := bindS hvK308
      refine AWp.cutW (fun τ => τ = { env := [(0, (.ptr 0 0)), (4, (.eptr 10 8 x1 0)), (5, (.d (.int .i64 x5))), (6, (.d (.int .i64 a73))), (7, (.d (.int .i64 a58)))], heap := [(.cells [(.d (.list 1 x2)), (.d (.list 1 x3)), (.d (.list 1 x4)), (.gref 10 8), (.d (.int .i64 (A.wrp .i64 (A.zadd x5 1)))), (.d (.int .i64 v297)), (.d (.int .i64 v298)), (.d (.int .i64 v299)), (.gref 13 6), (.gref 16 1)]), .dead, .dead, .dead, .dead, .dead, .dead, .dead, .dead, .dead, (.gro 8 v300), .dead, .dead, (.gro 6 v301), .dead, .dead, (.gro 1 v55), .dead, .dead], n := 285 }) ?_ ?_
      ·skip
       rcases tf (A.zeq a83 3) with c134 | c134
       ·replace hvK302 := cT c134 hvK302
        refine zt rfl (by first | rfl | simp only [c90, c112, c134, zqa, zqb, zqc, zqd]) ?_
        refine zs ?_
        refine zg hT hA {} (by (repeat (cbv; simp only [c90, c112, c134])); first | done | cbv) (lb rfl) ?_
        refine nT ?_
        refine zs ?_
        refine zs ?_
        obtain ⟨_, e135, hvK302⟩ := bindS hvK302
        have f137 := ckI e135
        obtain ⟨_, e136, hvK302⟩ := bindS hvK302
        have f138 := ckI e136
        obtain ⟨a139, e140, hvK302⟩ := bindS hvK302
        have f141 := gcI e140
        obtain ⟨_, e142, hvK302⟩ := bindS hvK302
        have f144 := ckI e142
        obtain ⟨_, e143, hvK302⟩ := bindS hvK302
        have f145 := ckI e143
        obtain ⟨⟨a149, a150, a151, a152, a153, a154, a155, a156⟩, e157, hvK302⟩ := bindS hvK302
        have f158 := gcI e157
        obtain ⟨a146, e147, hvK302⟩ := bindS hvK302
        have f148 := gcI e147
        refine AWp.rd hT hA { vx := [154, 160] } rfl (by (repeat (cbv; simp only [c90, c112, c134, f137, f138, f141, f144, f145, f158, f148])); first | done | cbv) (by kernel_rfl) (lb rfl) ?_
        refine nT ?_
        obtain ⟨⟨v171, v172, v173, v174⟩, hvK175, hvK302⟩ := bindS hvK302
        refine AWp.cutW (fun τ => τ = { env := [(0, (.ptr 0 0)), (4, (.eptr 10 8 x1 0)), (5, (.d (.int .i64 x5))), (6, (.d (.int .i64 a73))), (7, (.d (.int .i64 a58))), (9, (.eptr 10 8 x1 4)), (10, (.d (.int .i64 v171)))], heap := [(.cells [(.d (.list 1 x2)), (.d (.list 1 x3)), (.d (.list 1 x4)), (.gref 10 8), (.d (.int .i64 (A.wrp .i64 (A.zadd x5 1)))), (.d (.int .i64 v172)), (.d (.int .i64 v173)), (.d (.int .i64 v174)), (.gref 13 6), (.gref 16 1)]), .dead, .dead, .dead, .dead, .dead, .dead, .dead, .dead, .dead, (.gro 8 (A.lset v53 (A.nat x1) (.agg [(.int .i64 a57), (.int .i64 (A.wrp .i64 (A.zadd a58 1))), (.bool a59), (.int .i64 a60), (.int .i64 a61), (.int .i64 a62), (.int .i64 a63), (.int .i64 a64)]))), .dead, .dead, (.gro 6 v54), .dead, .dead, (.gro 1 v55), .dead, .dead], n := 285 }) ?_ ?_
        ·skip
         rcases tf (A.zeq a139 a146) with c159 | c159
         ·replace hvK175 := cT c159 hvK175
          refine zt rfl (by first | rfl | simp only [c90, c112, c134, c159, zqa, zqb, zqc, zqd]) ?_
          refine zs ?_
          obtain ⟨_, e160, hvK175⟩ := bindS hvK175
          have f162 := ckI e160
          obtain ⟨_, e161, hvK175⟩ := bindS hvK175
          have f163 := ckI e161
          obtain ⟨a164, e165, hvK175⟩ := bindS hvK175
          have f166 := gcI e165
          obtain ⟨_, e167, hvK175⟩ := bindS hvK175
          have f169 := ckI e167
          obtain ⟨_, e168, hvK175⟩ := bindS hvK175
          have f170 := ckI e168
          refine AWp.rd hT hA { tk := [171], vx := [170, 174] } rfl (by (repeat (cbv; simp only [c90, c112, c134, c159, f162, f163, f158, f166, f169, f170])); first | done | cbv) (by kernel_rfl) (lb rfl) ?_
          refine nT ?_
          refine zg hT hA {} (by (repeat (cbv; simp only [c90, c112, c134, c159])); first | done | cbv) (lb rfl) ?_
          cases soI hvK175
          exact oWi ⟨_, (Wk.ren [some 0, some 1, some 2, some 3, some 4, some 5, some 6, some 7, some 8, some 9, some 10, some 11, some 12, some 13, some 14, some 15, some 16, some 17, some 18] [0, 4, 5, 6, 7, 9, 10] rfl (by first | (cbv; done) | ((repeat (cbv; simp only [c90, c112, c134, c159])); first | done | cbv))), rfl⟩
         ·replace hvK175 := cF c159 hvK175
          refine zf rfl (by first | rfl | simp only [c90, c112, c134, c159, zqa, zqb, zqc, zqd]) ?_
          refine zk ?_
          cases soI hvK175
          exact oWi ⟨_, (Wk.ren [some 0, some 1, some 2, some 3, some 4, some 5, some 6, some 7, some 8, some 9, some 10, some 11, some 12, some 13, some 14, some 15, some 16, some 17, some 18] [0, 4, 5, 6, 7, 9, 10] rfl (by first | (cbv; done) | ((repeat (cbv; simp only [c90, c112, c134, c159])); first | done | cbv))), rfl⟩
        ·rintro _ rfl
         refine nT ?_
         refine zg hT hA { tk := [10, 176] } (by (repeat (cbv; simp only [f158])); first | done | cbv) (lb rfl) ?_
         cases soI hvK302
         exact oWi ⟨_, (Wk.ren [some 0, some 1, some 2, some 3, some 4, some 5, some 6, some 7, some 8, some 9, some 10, some 11, some 12, some 13, some 14, some 15, some 16, some 17, some 18] [0, 4, 5, 6, 7] rfl (by cbv)), rfl⟩
       ·replace hvK302 := cF c134 hvK302
        refine zf rfl (by first | rfl | simp only [c90, c112, c134, zqa, zqb, zqc, zqd]) ?_
        refine zs ?_
        refine zg hT hA {} (by (repeat (cbv; simp only [c90, c112, c134])); first | done | cbv) (lb rfl) ?_
        refine nT ?_
        obtain ⟨⟨v294, v295⟩, hvK296, hvK302⟩ := bindS hvK302
        refine AWp.cutW (fun τ => τ = { env := [(0, (.ptr 0 0)), (4, (.eptr 10 8 x1 0)), (5, (.d (.int .i64 x5))), (6, (.d (.int .i64 a73))), (7, (.d (.int .i64 a58)))], heap := [(.cells [(.d (.list 1 x2)), (.d (.list 1 x3)), (.d (.list 1 x4)), (.gref 10 8), (.d (.int .i64 (A.wrp .i64 (A.zadd x5 1)))), (.d (.int .i64 x6)), (.d (.int .i64 x7)), (.d (.int .i64 x8)), (.gref 13 6), (.gref 16 1)]), .dead, .dead, .dead, .dead, .dead, .dead, .dead, .dead, .dead, (.gro 8 v294), .dead, .dead, (.gro 6 v295), .dead, .dead, (.gro 1 v55), .dead, .dead], n := 285 }) ?_ ?_
        ·skip
         rcases tf (A.zeq a83 4) with c176 | c176
         ·replace hvK296 := cT c176 hvK296
          refine zt rfl (by first | rfl | simp only [c90, c112, c134, c176, zqa, zqb, zqc, zqd]) ?_
          obtain ⟨_, e177, hvK296⟩ := bindS hvK296
          have f179 := ckI e177
          obtain ⟨_, e178, hvK296⟩ := bindS hvK296
          have f180 := ckI e178
          obtain ⟨⟨a181, a182, a183, a184, a185, a186, a187, a188⟩, e189, hvK296⟩ := bindS hvK296
          have f190 := gcI e189
          refine AWp.rd hT hA { tk := [185], vx := [187] } rfl (by (repeat (cbv; simp only [c90, c112, c134, c176, f179, f180, f190])); first | done | cbv) (by kernel_rfl) (lb rfl) ?_
          cases soI hvK296
          exact oWi ⟨_, (Wk.ren [some 0, some 1, some 2, some 3, some 4, some 5, some 6, some 7, some 8, some 9, some 10, some 11, some 12, some 13, some 14, some 15, some 16, some 17, some 18] [0, 4, 5, 6, 7] rfl (by first | (cbv; done) | ((repeat (cbv; simp only [c90, c112, c134, c176])); first | done | cbv))), rfl⟩
         ·replace hvK296 := cF c176 hvK296
          refine zf rfl (by first | rfl | simp only [c90, c112, c134, c176, zqa, zqb, zqc, zqd]) ?_
          refine zs ?_
          refine zg hT hA {} (by (repeat (cbv; simp only [c90, c112, c134, c176])); first | done | cbv) (lb rfl) ?_
          refine nT ?_
          obtain ⟨⟨v291, v292⟩, hvK293, hvK296⟩ := bindS hvK296
          refine AWp.cutW (fun τ => τ = { env := [(0, (.ptr 0 0)), (4, (.eptr 10 8 x1 0)), (5, (.d (.int .i64 x5))), (6, (.d (.int .i64 a73))), (7, (.d (.int .i64 a58)))], heap := [(.cells [(.d (.list 1 x2)), (.d (.list 1 x3)), (.d (.list 1 x4)), (.gref 10 8), (.d (.int .i64 (A.wrp .i64 (A.zadd x5 1)))), (.d (.int .i64 x6)), (.d (.int .i64 x7)), (.d (.int .i64 x8)), (.gref 13 6), (.gref 16 1)]), .dead, .dead, .dead, .dead, .dead, .dead, .dead, .dead, .dead, (.gro 8 v291), .dead, .dead, (.gro 6 v292), .dead, .dead, (.gro 1 v55), .dead, .dead], n := 285 }) ?_ ?_
          ·skip
           rcases tf (A.zeq a83 5) with c191 | c191
           ·replace hvK293 := cT c191 hvK293
            refine zt rfl (by first | rfl | simp only [c90, c112, c134, c176, c191, zqa, zqb, zqc, zqd]) ?_
            obtain ⟨_, e192, hvK293⟩ := bindS hvK293
            have f194 := ckI e192
            obtain ⟨_, e193, hvK293⟩ := bindS hvK293
            have f195 := ckI e193
            obtain ⟨⟨a199, a200, a201, a202, a203, a204, a205, a206⟩, e207, hvK293⟩ := bindS hvK293
            have f208 := gcI e207
            obtain ⟨a196, e197, hvK293⟩ := bindS hvK293
            have f198 := gcI e197
            obtain ⟨_, e209, hvK293⟩ := bindS hvK293
            have f211 := ckI e209
            obtain ⟨_, e210, hvK293⟩ := bindS hvK293
            have f212 := ckI e210
            obtain ⟨a213, e214, hvK293⟩ := bindS hvK293
            have f215 := gcI e214
            obtain ⟨_, e216, hvK293⟩ := bindS hvK293
            have f217 := nkI e216
            obtain ⟨_, e218, hvK293⟩ := bindS hvK293
            have f220 := ckI e218
            obtain ⟨_, e219, hvK293⟩ := bindS hvK293
            have f221 := ckI e219
            refine AWp.rd hT hA { tk := [206], vx := [197, 203, 208] } rfl (by (repeat (cbv; simp only [c90, c112, c134, c176, c191, f194, f195, f208, f198, f211, f212, f215, f217, f220, f221])); first | done | cbv) (by kernel_rfl) (lb rfl) ?_
            cases soI hvK293
            exact oWi ⟨_, (Wk.ren [some 0, some 1, some 2, some 3, some 4, some 5, some 6, some 7, some 8, some 9, some 10, some 11, some 12, some 13, some 14, some 15, some 16, some 17, some 18] [0, 4, 5, 6, 7] rfl (by first | (cbv; done) | ((repeat (cbv; simp only [c90, c112, c134, c176, c191])); first | done | cbv))), rfl⟩
           ·replace hvK293 := cF c191 hvK293
            refine zf rfl (by first | rfl | simp only [c90, c112, c134, c176, c191, zqa, zqb, zqc, zqd]) ?_
            refine zs ?_
            refine zg hT hA {} (by (repeat (cbv; simp only [c90, c112, c134, c176, c191])); first | done | cbv) (lb rfl) ?_
            refine nT ?_
            obtain ⟨⟨v288, v289⟩, hvK290, hvK293⟩ := bindS hvK293
            refine AWp.cutW (fun τ => τ = { env := [(0, (.ptr 0 0)), (4, (.eptr 10 8 x1 0)), (5, (.d (.int .i64 x5))), (6, (.d (.int .i64 a73))), (7, (.d (.int .i64 a58)))], heap := [(.cells [(.d (.list 1 x2)), (.d (.list 1 x3)), (.d (.list 1 x4)), (.gref 10 8), (.d (.int .i64 (A.wrp .i64 (A.zadd x5 1)))), (.d (.int .i64 x6)), (.d (.int .i64 x7)), (.d (.int .i64 x8)), (.gref 13 6), (.gref 16 1)]), .dead, .dead, .dead, .dead, .dead, .dead, .dead, .dead, .dead, (.gro 8 v288), .dead, .dead, (.gro 6 v289), .dead, .dead, (.gro 1 v55), .dead, .dead], n := 285 }) ?_ ?_
            ·skip
             rcases tf (A.zeq a83 6) with c222 | c222
             ·replace hvK290 := cT c222 hvK290
              refine zt rfl (by first | rfl | simp only [c90, c112, c134, c176, c191, c222, zqa, zqb, zqc, zqd]) ?_
              refine zs ?_
              obtain ⟨_, e223, hvK290⟩ := bindS hvK290
              have f225 := ckI e223
              obtain ⟨_, e224, hvK290⟩ := bindS hvK290
              have f226 := ckI e224
              obtain ⟨⟨a230, a231, a232, a233, a234, a235, a236, a237⟩, e238, hvK290⟩ := bindS hvK290
              have f239 := gcI e238
              obtain ⟨a227, e228, hvK290⟩ := bindS hvK290
              have f229 := gcI e228
              refine AWp.rd hT hA { vx := [215] } rfl (by (repeat (cbv; simp only [c90, c112, c134, c176, c191, c222, f225, f226, f239, f229])); first | done | cbv) (by kernel_rfl) (lb rfl) ?_
              refine nT ?_
              obtain ⟨v241, hvK242, hvK290⟩ := bindS hvK290
              refine AWp.cutW (fun τ => τ = { env := [(0, (.ptr 0 0)), (4, (.eptr 10 8 x1 0)), (5, (.d (.int .i64 x5))), (6, (.d (.int .i64 a73))), (7, (.d (.int .i64 a58)))], heap := [(.cells [(.d (.list 1 x2)), (.d (.list 1 x3)), (.d (.list 1 x4)), (.gref 10 8), (.d (.int .i64 (A.wrp .i64 (A.zadd x5 1)))), (.d (.int .i64 x6)), (.d (.int .i64 x7)), (.d (.int .i64 x8)), (.gref 13 6), (.gref 16 1)]), .dead, .dead, .dead, .dead, .dead, .dead, .dead, .dead, .dead, (.gro 8 v241), .dead, .dead, (.gro 6 v54), .dead, .dead, (.gro 1 v55), .dead, .dead], n := 285 }) ?_ ?_
              ·skip
               rcases tf (A.zeq a227 0) with c240 | c240
               ·replace hvK242 := cT c240 hvK242
                refine zt rfl (by first | rfl | simp only [c90, c112, c134, c176, c191, c222, c240, zqa, zqb, zqc, zqd]) ?_
                refine zg hT hA {} (by (repeat (cbv; simp only [c90, c112, c134, c176, c191, c222, c240, f239])); first | done | cbv) (lb rfl) ?_
                cases soI hvK242
                exact oWi ⟨_, (Wk.ren [some 0, some 1, some 2, some 3, some 4, some 5, some 6, some 7, some 8, some 9, some 10, some 11, some 12, some 13, some 14, some 15, some 16, some 17, some 18] [0, 4, 5, 6, 7] rfl (by first | (cbv; done) | ((repeat (cbv; simp only [c90, c112, c134, c176, c191, c222, c240])); first | done | cbv))), rfl⟩
               ·replace hvK242 := cF c240 hvK242
                refine zf rfl (by first | rfl | simp only [c90, c112, c134, c176, c191, c222, c240, zqa, zqb, zqc, zqd]) ?_
                refine zk ?_
                cases soI hvK242
                exact oWi ⟨_, (Wk.ren [some 0, some 1, some 2, some 3, some 4, some 5, some 6, some 7, some 8, some 9, some 10, some 11, some 12, some 13, some 14, some 15, some 16, some 17, some 18] [0, 4, 5, 6, 7] rfl (by first | (cbv; done) | ((repeat (cbv; simp only [c90, c112, c134, c176, c191, c222, c240])); first | done | cbv))), rfl⟩
              ·rintro _ rfl
               cases soI hvK290
               exact oWi ⟨_, (Wk.ren [some 0, some 1, some 2, some 3, some 4, some 5, some 6, some 7, some 8, some 9, some 10, some 11, some 12, some 13, some 14, some 15, some 16, some 17, some 18] [0, 4, 5, 6, 7] rfl (by cbv)), rfl⟩
             ·replace hvK290 := cF c222 hvK290
              refine zf rfl (by first | rfl | simp only [c90, c112, c134, c176, c191, c222, zqa, zqb, zqc, zqd]) ?_
              refine zs ?_
              refine zg hT hA {} (by (repeat (cbv; simp only [c90, c112, c134, c176, c191, c222])); first | done | cbv) (lb rfl) ?_
              refine nT ?_
              obtain ⟨⟨v285, v286⟩, hvK287, hvK290⟩ := bindS hvK290
              refine AWp.cutW (fun τ => τ = { env := [(0, (.ptr 0 0)), (4, (.eptr 10 8 x1 0)), (5, (.d (.int .i64 x5))), (6, (.d (.int .i64 a73))), (7, (.d (.int .i64 a58)))], heap := [(.cells [(.d (.list 1 x2)), (.d (.list 1 x3)), (.d (.list 1 x4)), (.gref 10 8), (.d (.int .i64 (A.wrp .i64 (A.zadd x5 1)))), (.d (.int .i64 x6)), (.d (.int .i64 x7)), (.d (.int .i64 x8)), (.gref 13 6), (.gref 16 1)]), .dead, .dead, .dead, .dead, .dead, .dead, .dead, .dead, .dead, (.gro 8 v285), .dead, .dead, (.gro 6 v286), .dead, .dead, (.gro 1 v55), .dead, .dead], n := 285 }) ?_ ?_
              ·skip
               rcases tf (A.zeq a83 7) with c243 | c243
               ·replace hvK287 := cT c243 hvK287
                refine zt rfl (by first | rfl | simp only [c90, c112, c134, c176, c191, c222, c243, zqa, zqb, zqc, zqd]) ?_
                refine zs ?_
                obtain ⟨⟨a244, a245, a246, a247, a248, a249, a250, a251⟩, e252, hvK287⟩ := bindS hvK287
                have f253 := gcI e252
                obtain ⟨_, e254, hvK287⟩ := bindS hvK287
                have f256 := ckI e254
                obtain ⟨_, e255, hvK287⟩ := bindS hvK287
                have f257 := ckI e255
                obtain ⟨⟨a258, a259, a260, a261, a262, a263⟩, e264, hvK287⟩ := bindS hvK287
                have f265 := gcI e264
                refine AWp.rd hT hA {} rfl (by (repeat (cbv; simp only [c90, c112, c134, c176, c191, c222, c243, f253, f256, f257, f265])); first | done | cbv) (by kernel_rfl) (lb rfl) ?_
                refine nT ?_
                refine zs ?_
                obtain ⟨_, e266, hvK287⟩ := bindS hvK287
                have f268 := ckI e266
                obtain ⟨_, e267, hvK287⟩ := bindS hvK287
                have f269 := ckI e267
                obtain ⟨a270, e271, hvK287⟩ := bindS hvK287
                have f272 := gcI e271
                obtain ⟨_, e273, hvK287⟩ := bindS hvK287
                have f275 := ckI e273
                obtain ⟨_, e274, hvK287⟩ := bindS hvK287
                have f276 := ckI e274
                obtain ⟨⟨a277, a278, a279, a280, a281, a282⟩, e283, hvK287⟩ := bindS hvK287
                have f284 := gcI e283
                refine AWp.rd hT hA { vx := [250] } rfl (by (repeat (cbv; simp only [c90, c112, c134, c176, c191, c222, c243, f253, f268, f269, f272, f275, f276, f284])); first | done | cbv) (by kernel_rfl) (lb rfl) ?_
                refine nT ?_
                refine zg hT hA {} (by (repeat (cbv; simp only [c90, c112, c134, c176, c191, c222, c243, f253])); first | done | cbv) (lb rfl) ?_
                cases soI hvK287
                exact oWi ⟨_, (Wk.ren [some 0, some 1, some 2, some 3, some 4, some 5, some 6, some 7, some 8, some 9, some 10, some 11, some 12, some 13, some 14, some 15, some 16, some 17, some 18] [0, 4, 5, 6, 7] rfl (by first | (cbv; done) | ((repeat (cbv; simp only [c90, c112, c134, c176, c191, c222, c243])); first | done | cbv))), rfl⟩
               ·replace hvK287 := cF c243 hvK287
                refine zf rfl (by first | rfl | simp only [c90, c112, c134, c176, c191, c222, c243, zqa, zqb, zqc, zqd]) ?_
                refine zk ?_
                cases soI hvK287
                exact oWi ⟨_, (Wk.ren [some 0, some 1, some 2, some 3, some 4, some 5, some 6, some 7, some 8, some 9, some 10, some 11, some 12, some 13, some 14, some 15, some 16, some 17, some 18] [0, 4, 5, 6, 7] rfl (by first | (cbv; done) | ((repeat (cbv; simp only [c90, c112, c134, c176, c191, c222, c243])); first | done | cbv))), rfl⟩
              ·rintro _ rfl
               cases soI hvK290
               exact oWi ⟨_, (Wk.ren [some 0, some 1, some 2, some 3, some 4, some 5, some 6, some 7, some 8, some 9, some 10, some 11, some 12, some 13, some 14, some 15, some 16, some 17, some 18] [0, 4, 5, 6, 7] rfl (by cbv)), rfl⟩
            ·rintro _ rfl
             cases soI hvK293
             exact oWi ⟨_, (Wk.ren [some 0, some 1, some 2, some 3, some 4, some 5, some 6, some 7, some 8, some 9, some 10, some 11, some 12, some 13, some 14, some 15, some 16, some 17, some 18] [0, 4, 5, 6, 7] rfl (by cbv)), rfl⟩
          ·rintro _ rfl
           cases soI hvK296
           exact oWi ⟨_, (Wk.ren [some 0, some 1, some 2, some 3, some 4, some 5, some 6, some 7, some 8, some 9, some 10, some 11, some 12, some 13, some 14, some 15, some 16, some 17, some 18] [0, 4, 5, 6, 7] rfl (by cbv)), rfl⟩
        ·rintro _ rfl
         cases soI hvK302
         exact oWi ⟨_, (Wk.ren [some 0, some 1, some 2, some 3, some 4, some 5, some 6, some 7, some 8, some 9, some 10, some 11, some 12, some 13, some 14, some 15, some 16, some 17, some 18] [0, 4, 5, 6, 7] rfl (by cbv)), rfl⟩
      ·rintro _ rfl
       cases soI hvK308
       exact oWi ⟨_, (Wk.ren [some 0, some 1, some 2, some 3, some 4, some 5, some 6, some 7, some 8, some 9, some 10, some 11, some 12, some 13, some 14, some 15, some 16, some 17, some 18] [0, 4, 5, 6, 7] rfl (by cbv)), rfl⟩
    ·rintro _ rfl
     cases soI hvK314
     exact oWi ⟨_, (Wk.ren [some 0, some 1, some 2, some 3, some 4, some 5, some 6, some 7, some 8, some 9, some 10, some 11, some 12, some 13, some 14, some 15, some 16, some 17, some 18] [0, 4, 5, 6, 7] rfl (by cbv)), rfl⟩
  ·rintro _ rfl
   refine nB ?_
   refine nT ?_
   refine zs ?_
   obtain ⟨v320, hvK321, h⟩ := bindS h
   refine AWp.cutW (fun τ => τ = { env := [(0, (.ptr 0 0)), (4, (.eptr 10 8 x1 0)), (5, (.d (.int .i64 x5))), (274, (.d (.bool v320)))], heap := [(.cells [(.d (.list 1 x2)), (.d (.list 1 x3)), (.d (.list 1 x4)), (.gref 10 8), (.d (.int .i64 (A.wrp .i64 (A.zadd x5 1)))), (.d (.int .i64 v309)), (.d (.int .i64 v310)), (.d (.int .i64 v311)), (.gref 13 6), (.gref 16 1)]), .dead, .dead, .dead, .dead, .dead, .dead, .dead, .dead, .dead, (.gro 8 v312), .dead, .dead, (.gro 6 v313), .dead, .dead, (.gro 1 v55), .dead, .dead], n := 285 }) ?_ ?_
   ·skip
    rcases tf (A.zlt a73 (A.len x4)) with c315 | c315
    ·replace hvK321 := cT c315 hvK321
     obtain ⟨a316, e317, hvK321⟩ := bindS hvK321
     obtain ⟨f318, f319⟩ := gtI e317
     refine zg hT hA {} (by (repeat (cbv; simp only [c315, f318, f319])); first | done | cbv) (lb rfl) ?_
     cases soI hvK321
     exact oWi ⟨_, (Wk.ren [some 0, some 1, some 2, some 3, some 4, some 5, some 6, some 7, some 8, some 9, some 10, some 11, some 12, some 13, some 14, some 15, some 16, some 17, some 18] [0, 4, 5, 274] rfl (by first | (cbv; done) | ((repeat (cbv; simp only [c315])); first | done | cbv))), rfl⟩
    ·replace hvK321 := cF c315 hvK321
     refine zg hT hA {} (by (repeat (cbv; simp only [c315])); first | done | cbv) (lb rfl) ?_
     cases soI hvK321
     exact oWi ⟨_, (Wk.ren [some 0, some 1, some 2, some 3, some 4, some 5, some 6, some 7, some 8, some 9, some 10, some 11, some 12, some 13, some 14, some 15, some 16, some 17, some 18] [0, 4, 5, 274] rfl (by first | (cbv; done) | ((repeat (cbv; simp only [c315])); first | done | cbv))), rfl⟩
   ·rintro _ rfl
    refine nT ?_
    obtain ⟨v340, hvK341, h⟩ := bindS h
    refine AWp.cutW (fun τ => τ = { env := [], heap := [(.cells [(.d (.list 1 x2)), (.d (.list 1 x3)), (.d (.list 1 x4)), (.gref 10 8), (.d (.int .i64 (A.wrp .i64 (A.zadd x5 1)))), (.d (.int .i64 v309)), (.d (.int .i64 v310)), (.d (.int .i64 v311)), (.gref 13 6), (.gref 16 1)]), .dead, .dead, .dead, .dead, .dead, .dead, .dead, .dead, .dead, (.gro 8 v312), .dead, .dead, (.gro 6 v313), .dead, .dead, (.gro 1 v340), .dead, .dead], n := 285 }) ?_ ?_
    ·skip
     rcases tf v320 with c322 | c322
     ·replace hvK341 := cT c322 hvK341
      refine zt rfl (by first | rfl | simp only [c322, zqa, zqb, zqc, zqd]) ?_
      obtain ⟨⟨a323, a324, a325, a326, a327, a328, a329, a330⟩, e331, hvK341⟩ := bindS hvK341
      have f332 := gcI e331
      obtain ⟨_, e333, hvK341⟩ := bindS hvK341
      have f335 := ckI e333
      obtain ⟨_, e334, hvK341⟩ := bindS hvK341
      have f336 := ckI e334
      obtain ⟨a337, e338, hvK341⟩ := bindS hvK341
      have f339 := gcI e338
      refine AWp.rd hT hA { tk := [5, 283] } rfl (by (repeat (cbv; simp only [c322, f332, f335, f336, f339])); first | done | cbv) (by kernel_rfl) (lb rfl) ?_
      cases soI hvK341
      exact oWi ⟨_, (Wk.ren [some 0, some 1, some 2, some 3, some 4, some 5, some 6, some 7, some 8, some 9, some 10, some 11, some 12, some 13, some 14, some 15, some 16, some 17, some 18] [] rfl (by first | (cbv; done) | ((repeat (cbv; simp only [c322])); first | done | cbv))), rfl⟩
     ·replace hvK341 := cF c322 hvK341
      refine zf rfl (by first | rfl | simp only [c322, zqa, zqb, zqc, zqd]) ?_
      refine zk ?_
      cases soI hvK341
      exact oWi ⟨_, (Wk.ren [some 0, some 1, some 2, some 3, some 4, some 5, some 6, some 7, some 8, some 9, some 10, some 11, some 12, some 13, some 14, some 15, some 16, some 17, some 18] [] rfl (by first | (cbv; done) | ((repeat (cbv; simp only [c322])); first | done | cbv))), rfl⟩
    ·rintro _ rfl
     cases soI h
     exact ⟨rfl, rfl, rfl, lb rfl, _, rfl⟩

theorem C113w {A : Ar} (hA : A = Ar.std) {x1 : Int} {x2 : Int} {x3 : List D} {x4 : List D} {x5 : List D} {x6 : Int} {v62 : Bool} (h : C113 A x1 x2 x3 x4 x5 x6 = some v62) : ACall Try.prog 113 [(.d (.agg [(.int .i64 x1), (.int .i64 x2), (.list 1 x3), (.list 1 x4)])), (.d (.list 1 x5)), (.d (.int .i64 x6))] [] (.d (.bool v62)) [] := by
 unfold C113 at h
 refine ACall.enter hT (fn := Try.f113) Try.func113 rfl (by decide) (by simp [Try.f113]) rfl rfl rfl rfl (lb rfl) ?_
 refine zs ?_
 refine zg hT hA {} (by cbv) (lb rfl) ?_
 refine nT ?_
 refine zs ?_
 refine zs ?_
 refine zg hT hA {} (by cbv) (lb rfl) ?_
 refine nT ?_
 rcases tf (A.zeq (A.len x5) x1) with c7 | c7
 ·replace h := cT c7 h
  refine zf rfl (by first | rfl | simp only [c7, zqa, zqb, zqc, zqd]) ?_
  refine zk ?_
  refine nT ?_
  refine zs ?_
  refine zs ?_
  refine zg hT hA {} (by (repeat (cbv; simp only [c7])); first | done | cbv) (lb rfl) ?_
  refine nT ?_
  refine zb ?_
  obtain ⟨xK61, hxK61, K61, hK61, hkK61⟩ := bindK h
  refine AWp.cutX 0 [] [] 0 (lb rfl) (fun τ => K61 (.inl ()) = some v62 ∧ τ = { env := [], heap := [], n := 42 }) ?_ ?_
  ·skip
   refine AWp.iter hxK61 [2, 3, 16, 17, 18] [] 0 (lb rfl) (fun v34 => { env := [(2, (.d (.int .i64 x6))), (3, (.lbox [(.d (.int .i64 x1)), (.d (.int .i64 x2)), (.d (.list 1 x3)), (.d (.list 1 x4))])), (16, (.d (.list 1 x5))), (17, (.d (.int .i64 (A.len x5)))), (18, (.d (.int .i64 v34)))], heap := [], n := 42 }) ⟨rfl, (by first | (cbv; done) | ((repeat (cbv; simp only [c7])); first | done | cbv))⟩ ?_
   rintro v34 eK61 hsK61
   dsimp only [C113L1] at hsK61
   refine zs ?_
   refine zg hT hA {} (by cbv) (lb rfl) ?_
   refine nT ?_
   refine zs ?_
   rcases tf (A.zlt v34 (A.len x5)) with c35 | c35
   ·replace hsK61 := cT c35 hsK61
    refine zt rfl (by first | rfl | simp only [c35, zqa, zqb, zqc, zqd]) ?_
    refine zk ?_
    refine nT ?_
    refine zs ?_
    refine zb ?_
    refine zs ?_
    obtain ⟨a36, e37, hsK61⟩ := bindS hsK61
    obtain ⟨f38, f39⟩ := gtI e37
    refine zg hT hA {} (by (repeat (cbv; simp only [c35, f38, f39])); first | done | cbv) (lb rfl) ?_
    refine nT ?_
    refine zs ?_
    refine zs ?_
    refine zg hT hA {} (by (repeat (cbv; simp only [c35])); first | done | cbv) (lb rfl) ?_
    refine nT ?_
    rcases tf (A.zeq (A.len a36) x2) with c40 | c40
    ·replace hsK61 := cT c40 hsK61
     refine zf rfl (by first | rfl | simp only [c35, c40, zqa, zqb, zqc, zqd]) ?_
     refine zk ?_
     refine nT ?_
     refine zs ?_
     refine zg hT hA {} (by (repeat (cbv; simp only [c35, c40])); first | done | cbv) (lb rfl) ?_
     refine nT ?_
     refine zb ?_
     obtain ⟨xK60, hxK60, K60, hK60, hkK60⟩ := bindK hsK61
     refine AWp.cutX 2 [2, 3, 16, 17, 18] [] 0 (lb rfl) (fun τ => K60 (.inl ()) = some eK61 ∧ τ = { env := [(2, (.d (.int .i64 x6))), (3, (.lbox [(.d (.int .i64 x1)), (.d (.int .i64 x2)), (.d (.list 1 x3)), (.d (.list 1 x4))])), (16, (.d (.list 1 x5))), (17, (.d (.int .i64 (A.len x5)))), (18, (.d (.int .i64 v34)))], heap := [], n := 42 }) ?_ ?_
     ·skip
      refine AWp.iter hxK60 [2, 3, 16, 17, 18, 27, 28, 29] [] 0 (lb rfl) (fun v50 => { env := [(2, (.d (.int .i64 x6))), (3, (.lbox [(.d (.int .i64 x1)), (.d (.int .i64 x2)), (.d (.list 1 x3)), (.d (.list 1 x4))])), (16, (.d (.list 1 x5))), (17, (.d (.int .i64 (A.len x5)))), (18, (.d (.int .i64 v34))), (27, (.d (.list 1 a36))), (28, (.d (.int .i64 (A.len a36)))), (29, (.d (.int .i64 v50)))], heap := [], n := 42 }) ⟨rfl, (by first | (cbv; done) | ((repeat (cbv; simp only [c35, c40])); first | done | cbv))⟩ ?_
      rintro v50 eK60 hsK60
      dsimp only [C113L0] at hsK60
      refine zs ?_
      refine zg hT hA {} (by cbv) (lb rfl) ?_
      refine nT ?_
      refine zs ?_
      rcases tf (A.zlt v50 (A.len a36)) with c51 | c51
      ·replace hsK60 := cT c51 hsK60
       refine zt rfl (by first | rfl | simp only [c51, zqa, zqb, zqc, zqd]) ?_
       refine zk ?_
       refine nT ?_
       refine zs ?_
       refine zb ?_
       refine zs ?_
       obtain ⟨a52, e53, hsK60⟩ := bindS hsK60
       obtain ⟨f54, f55⟩ := gtI e53
       refine zg hT hA {} (by (repeat (cbv; simp only [c51, f54, f55])); first | done | cbv) (lb rfl) ?_
       refine nT ?_
       refine zs ?_
       obtain ⟨v57, hvK58, hsK60⟩ := bindS hsK60
       refine AWp.cutN [2, 3, 16, 17, 18, 27, 28, 29, 39] [] 0 (lb rfl) (fun τ => τ = { env := [(2, (.d (.int .i64 x6))), (3, (.lbox [(.d (.int .i64 x1)), (.d (.int .i64 x2)), (.d (.list 1 x3)), (.d (.list 1 x4))])), (16, (.d (.list 1 x5))), (17, (.d (.int .i64 (A.len x5)))), (18, (.d (.int .i64 v34))), (27, (.d (.list 1 a36))), (28, (.d (.int .i64 (A.len a36)))), (29, (.d (.int .i64 v50))), (39, (.d (.bool v57)))], heap := [], n := 42 }) ?_ ?_
       ·skip
        rcases tf (A.zlt a52 0) with c56 | c56
        ·replace hvK58 := cT c56 hvK58
         refine zg hT hA {} (by (repeat (cbv; simp only [c51, c56])); first | done | cbv) (lb rfl) ?_
         cases soI hvK58
         exact oNi ⟨rfl, (by first | (cbv; done) | ((repeat (cbv; simp only [c51, c56])); first | done | cbv))⟩
        ·replace hvK58 := cF c56 hvK58
         refine zg hT hA {} (by (repeat (cbv; simp only [c51, c56])); first | done | cbv) (lb rfl) ?_
         cases soI hvK58
         exact oNi ⟨rfl, (by first | (cbv; done) | ((repeat (cbv; simp only [c51, c56])); first | done | cbv))⟩
       ·rintro _ rfl
        refine nT ?_
        rcases tf v57 with c59 | c59
        ·replace hsK60 := cT c59 hsK60
         refine zt rfl (by first | rfl | simp only [c59, zqa, zqb, zqc, zqd]) ?_
         refine zs ?_
         refine zg hT hA {} (by (repeat (cbv; simp only [c59])); first | done | cbv) (lb rfl) ?_
         refine nT ?_
         refine zr ?_
         refine rB ?_
         refine rT ?_
         refine rT ?_
         refine exL hsK60 fun hx => ?_
         subst hx
         refine oxR ?_
         replace hkK60 := (eR (hK60 _ hkK60))
         refine rB ?_
         refine rB ?_
         refine rT ?_
         refine rT ?_
         refine exL hkK60 fun hx => ?_
         subst hx
         refine oxR ?_
         replace hkK61 := (eR (hK61 _ hkK61))
         refine rB ?_
         refine rT ?_
         cases soI hkK61
         exact ⟨rfl, rfl, rfl, lb rfl, _, rfl⟩
        ·replace hsK60 := cF c59 hsK60
         refine zf rfl (by first | rfl | simp only [c59, zqa, zqb, zqc, zqd]) ?_
         refine zk ?_
         refine nB ?_
         refine nT ?_
         refine zg hT hA {} (by (repeat (cbv; simp only [c59])); first | done | cbv) (lb rfl) ?_
         exact nT ⟨_, (soI hsK60).symm, rfl, (by first | (cbv; done) | ((repeat (cbv; simp only [c59])); first | done | cbv))⟩
      ·replace hsK60 := cF c51 hsK60
       refine zf rfl (by first | rfl | simp only [c51, zqa, zqb, zqc, zqd]) ?_
       refine AWp.exit ?_
       refine xT ?_
       refine xT ?_
       refine exL hsK60 fun hx => ?_
       subst hx
       exact oxI ⟨rfl, hkK60, (by first | (cbv; done) | ((repeat (cbv; simp only [c51])); first | done | cbv))⟩
     ·rintro _ ⟨hkK60, rfl⟩
      have hsK61 := (eL (hK60 _ hkK60))
      refine xB ?_
      refine nB ?_
      refine nT ?_
      refine zg hT hA {} (by cbv) (lb rfl) ?_
      exact nT ⟨_, (soI hsK61).symm, rfl, (by cbv)⟩
    ·replace hsK61 := cF c40 hsK61
     refine zt rfl (by first | rfl | simp only [c35, c40, zqa, zqb, zqc, zqd]) ?_
     refine zs ?_
     refine zg hT hA {} (by (repeat (cbv; simp only [c35, c40])); first | done | cbv) (lb rfl) ?_
     refine nT ?_
     refine zr ?_
     refine rT ?_
     refine rB ?_
     refine rT ?_
     refine rT ?_
     refine exL hsK61 fun hx => ?_
     subst hx
     refine oxR ?_
     replace hkK61 := (eR (hK61 _ hkK61))
     refine rB ?_
     refine rT ?_
     cases soI hkK61
     exact ⟨rfl, rfl, rfl, lb rfl, _, rfl⟩
   ·replace hsK61 := cF c35 hsK61
    refine zf rfl (by first | rfl | simp only [c35, zqa, zqb, zqc, zqd]) ?_
    refine AWp.exit ?_
    refine xT ?_
    refine xT ?_
    refine exL hsK61 fun hx => ?_
    subst hx
    exact oxI ⟨rfl, hkK61, (by first | (cbv; done) | ((repeat (cbv; simp only [c35])); first | done | cbv))⟩
  ·rintro _ ⟨hkK61, rfl⟩
   have h := (eL (hK61 _ hkK61))
   refine xB ?_
   refine nT ?_
   refine zs ?_
   refine zg hT hA {} (by cbv) (lb rfl) ?_
   refine nT ?_
   refine zr ?_
   cases soI h
   exact ⟨rfl, rfl, rfl, lb rfl, _, rfl⟩
 ·replace h := cF c7 h
  refine zt rfl (by first | rfl | simp only [c7, zqa, zqb, zqc, zqd]) ?_
  refine zs ?_
  refine zg hT hA {} (by (repeat (cbv; simp only [c7])); first | done | cbv) (lb rfl) ?_
  refine nT ?_
  refine zr ?_
  refine rT ?_
  cases soI h
  exact ⟨rfl, rfl, rfl, lb rfl, _, rfl⟩

theorem C58w {A : Ar} (hA : A = Ar.std) {x1 : Int} {x2 : Int} {x3 : List D} {x4 : List D} {v16 : Bool} (h : C58 A x1 x2 x3 x4 = some v16) : ACall Try.prog 58 [(.d (.agg [(.int .i64 x1), (.int .i64 x2), (.list 1 x3), (.list 1 x4)]))] [] (.d (.bool v16)) [] := by
 unfold C58 at h
 refine ACall.enter hT (fn := Try.f58) Try.func58 rfl (by decide) (by simp [Try.f58]) rfl rfl rfl rfl (lb rfl) ?_
 refine zs ?_
 refine zg hT hA {} (by cbv) (lb rfl) ?_
 refine nT ?_
 refine zs ?_
 obtain ⟨v14, hvK15, h⟩ := bindS h
 refine AWp.cutN [2] [] 0 (lb rfl) (fun τ => τ = { env := [(2, (.d (.bool v14)))], heap := [], n := 35 }) ?_ ?_
 ·skip
  refine zn ?_
  rcases tf (A.zle 1 x1) with c5 | c5
  ·replace hvK15 := cT c5 hvK15
   rcases tf (A.zle x1 8) with c6 | c6
   ·replace hvK15 := cT c6 hvK15
    rcases tf (A.zle 1 x2) with c7 | c7
    ·replace hvK15 := cT c7 hvK15
     rcases tf (A.zle x2 4) with c8 | c8
     ·replace hvK15 := cT c8 hvK15
      obtain ⟨r10, e9, hvK15⟩ := bindS hvK15
      refine AOps.cc hT hA { tk := [34] } (by (repeat (cbv; simp only [c5, c6, c7, c8])); first | done | cbv) (lb rfl) (C113w hA e9) rfl (.inl rfl) rfl rfl rfl (lb rfl) rfl rfl ?_
      rcases tf r10 with c11 | c11
      ·replace hvK15 := cT c11 hvK15
       obtain ⟨r13, e12, hvK15⟩ := bindS hvK15
       refine AOps.cc hT hA { tk := [34] } (by (repeat (cbv; simp only [c5, c6, c7, c8, c11])); first | done | cbv) (lb rfl) (C113w hA e12) rfl (.inl rfl) rfl rfl rfl (lb rfl) rfl rfl ?_
       refine AOps.cd hT hA { tk := [34] } (by (repeat (cbv; simp only [c5, c6, c7, c8, c11])); first | done | cbv) (lb rfl) ?_
       cases soI hvK15
       exact oNi ⟨rfl, (by first | (cbv; done) | ((repeat (cbv; simp only [c5, c6, c7, c8, c11])); first | done | cbv))⟩
      ·replace hvK15 := cF c11 hvK15
       refine AOps.cd hT hA { tk := [34] } (by (repeat (cbv; simp only [c5, c6, c7, c8, c11])); first | done | cbv) (lb rfl) ?_
       cases soI hvK15
       exact oNi ⟨rfl, (by first | (cbv; done) | ((repeat (cbv; simp only [c5, c6, c7, c8, c11])); first | done | cbv))⟩
     ·replace hvK15 := cF c8 hvK15
      refine AOps.cd hT hA { tk := [34] } (by (repeat (cbv; simp only [c5, c6, c7, c8])); first | done | cbv) (lb rfl) ?_
      cases soI hvK15
      exact oNi ⟨rfl, (by first | (cbv; done) | ((repeat (cbv; simp only [c5, c6, c7, c8])); first | done | cbv))⟩
    ·replace hvK15 := cF c7 hvK15
     refine AOps.cd hT hA { tk := [34] } (by (repeat (cbv; simp only [c5, c6, c7])); first | done | cbv) (lb rfl) ?_
     cases soI hvK15
     exact oNi ⟨rfl, (by first | (cbv; done) | ((repeat (cbv; simp only [c5, c6, c7])); first | done | cbv))⟩
   ·replace hvK15 := cF c6 hvK15
    refine AOps.cd hT hA { tk := [34] } (by (repeat (cbv; simp only [c5, c6])); first | done | cbv) (lb rfl) ?_
    cases soI hvK15
    exact oNi ⟨rfl, (by first | (cbv; done) | ((repeat (cbv; simp only [c5, c6])); first | done | cbv))⟩
  ·replace hvK15 := cF c5 hvK15
   refine AOps.cd hT hA { tk := [34] } (by (repeat (cbv; simp only [c5])); first | done | cbv) (lb rfl) ?_
   cases soI hvK15
   exact oNi ⟨rfl, (by first | (cbv; done) | ((repeat (cbv; simp only [c5])); first | done | cbv))⟩
 ·rintro _ rfl
  refine nT ?_
  refine zr ?_
  cases soI h
  exact ⟨rfl, rfl, rfl, lb rfl, _, rfl⟩

theorem C140w {A : Ar} (hA : A = Ar.std) {x1 : Int} {x2 : Int} {x3 : Int} {v7 : Bool} (h : C140 A x1 x2 x3 = some v7) : ACall Try.prog 140 [(.d (.int .i64 x1)), (.d (.int .i64 x2)), (.d (.int .i64 x3))] [] (.d (.bool v7)) [] := by
 unfold C140 at h
 refine ACall.enter hT (fn := Try.f140) Try.func140 rfl (by decide) (by simp [Try.f140]) rfl rfl rfl rfl (lb rfl) ?_
 refine zs ?_
 refine zg hT hA {} (by cbv) (lb rfl) ?_
 refine nT ?_
 refine zs ?_
 obtain ⟨v5, hvK6, h⟩ := bindS h
 refine AWp.cutN [6] [] 0 (lb rfl) (fun τ => τ = { env := [(6, (.d (.bool v5)))], heap := [], n := 15 }) ?_ ?_
 ·skip
  rcases tf (A.zle x1 x2) with c4 | c4
  ·replace hvK6 := cT c4 hvK6
   refine zg hT hA { tk := [14] } (by (repeat (cbv; simp only [c4])); first | done | cbv) (lb rfl) ?_
   cases soI hvK6
   exact oNi ⟨rfl, (by first | (cbv; done) | ((repeat (cbv; simp only [c4])); first | done | cbv))⟩
  ·replace hvK6 := cF c4 hvK6
   refine zg hT hA { tk := [14] } (by (repeat (cbv; simp only [c4])); first | done | cbv) (lb rfl) ?_
   cases soI hvK6
   exact oNi ⟨rfl, (by first | (cbv; done) | ((repeat (cbv; simp only [c4])); first | done | cbv))⟩
 ·rintro _ rfl
  refine nT ?_
  refine zr ?_
  cases soI h
  exact ⟨rfl, rfl, rfl, lb rfl, _, rfl⟩

theorem C165w {A : Ar} (hA : A = Ar.std) {x1 : Int} {x2 : Int} {v5 : Bool} (h : C165 A x1 x2 = some v5) : ACall Try.prog 165 [(.d (.int .i64 x1)), (.iptr [(.int .i64 x2)])] [] (.d (.bool v5)) [] := by
 unfold C165 at h
 refine ACall.enter hT (fn := Try.f165) Try.func165 rfl (by decide) (by simp [Try.f165]) rfl rfl rfl rfl (lb rfl) ?_
 refine zs ?_
 refine zg hT hA {} (by cbv) (lb rfl) ?_
 refine nT ?_
 refine zs ?_
 refine zn ?_
 obtain ⟨r4, e3, h⟩ := bindS h
 refine AOps.cc hT hA { tk := [7] } (by cbv) (lb rfl) (C140w hA e3) rfl (.inl rfl) rfl rfl rfl (lb rfl) rfl rfl ?_
 refine AOps.cd hT hA { tk := [7] } (by cbv) (lb rfl) ?_
 refine nT ?_
 refine zr ?_
 cases soI h
 exact ⟨rfl, rfl, rfl, lb rfl, _, rfl⟩

theorem C162bw {A : Ar} (hA : A = Ar.std) {x1 : List D} {x2 : Int} {v22 : Int} (h : C162b A x1 x2 = some v22) : ACall Try.prog 162 [(.d (.list 1 x1)), (.func 165 [] [(.iptr [(.int .i64 x2)])])] [] (.d (.int .i64 v22)) [] := by
 unfold C162b at h
 refine ACall.enter hT (fn := Try.f162) Try.func162 rfl (by decide) (by simp [Try.f162]) rfl rfl rfl rfl (lb rfl) ?_
 refine zs ?_
 refine zg hT hA {} (by cbv) (lb rfl) ?_
 refine nT ?_
 refine zs ?_
 refine zs ?_
 refine zg hT hA {} (by cbv) (lb rfl) ?_
 refine nT ?_
 refine zb ?_
 obtain ⟨xK21, hxK21, K21, hK21, hkK21⟩ := bindK h
 refine AWp.cutX 0 [] [] 0 (lb rfl) (fun τ => K21 (.inl ()) = some v22 ∧ τ = { env := [], heap := [], n := 19 }) ?_ ?_
 ·skip
  refine AWp.iter hxK21 [0, 1, 7, 8] [] 0 (lb rfl) (fun v11 => { env := [(0, (.d (.list 1 x1))), (1, (.func 165 [] [(.iptr [(.int .i64 x2)])])), (7, (.d (.int .i64 (A.len x1)))), (8, (.d (.int .i64 v11)))], heap := [], n := 19 }) ⟨rfl, (by cbv)⟩ ?_
  rintro v11 eK21 hsK21
  dsimp only [C162bL0] at hsK21
  refine zs ?_
  refine zg hT hA {} (by cbv) (lb rfl) ?_
  refine nT ?_
  refine zs ?_
  rcases tf (A.zlt v11 (A.len x1)) with c12 | c12
  ·replace hsK21 := cT c12 hsK21
   refine zt rfl (by first | rfl | simp only [c12, zqa, zqb, zqc, zqd]) ?_
   refine zk ?_
   refine nT ?_
   refine zs ?_
   refine zb ?_
   refine zs ?_
   refine zg hT hA { tk := [8, 10] } (by (repeat (cbv; simp only [c12])); first | done | cbv) (lb rfl) ?_
   refine nT ?_
   refine zs ?_
   refine zn ?_
   obtain ⟨a13, e14, hsK21⟩ := bindS hsK21
   obtain ⟨f15, f16⟩ := gtI e14
   obtain ⟨r18, e17, hsK21⟩ := bindS hsK21
   refine AOps.cc hT hA {} (by (repeat (cbv; simp only [c12, f15, f16])); first | done | cbv) (lb rfl) (C165w hA e17) rfl (.inl rfl) rfl rfl rfl (lb rfl) rfl rfl ?_
   refine AOps.cd hT hA {} (by (repeat (cbv; simp only [c12, f15, f16])); first | done | cbv) (lb rfl) ?_
   refine nT ?_
   rcases tf r18 with c19 | c19
   ·replace hsK21 := cT c19 hsK21
    refine zt rfl (by first | rfl | simp only [c12, c19, zqa, zqb, zqc, zqd]) ?_
    refine zs ?_
    refine zg hT hA { tk := [5, 17] } (by (repeat (cbv; simp only [c12, c19])); first | done | cbv) (lb rfl) ?_
    refine nT ?_
    refine zr ?_
    refine rB ?_
    refine rT ?_
    refine rT ?_
    refine exL hsK21 fun hx => ?_
    subst hx
    refine oxR ?_
    replace hkK21 := (eR (hK21 _ hkK21))
    refine rB ?_
    refine rT ?_
    cases soI hkK21
    exact ⟨rfl, rfl, rfl, lb rfl, _, rfl⟩
   ·replace hsK21 := cF c19 hsK21
    refine zf rfl (by first | rfl | simp only [c12, c19, zqa, zqb, zqc, zqd]) ?_
    refine zk ?_
    refine nB ?_
    refine nT ?_
    refine zg hT hA { tk := [18] } (by (repeat (cbv; simp only [c12, c19])); first | done | cbv) (lb rfl) ?_
    exact nT ⟨_, (soI hsK21).symm, rfl, (by first | (cbv; done) | ((repeat (cbv; simp only [c12, c19])); first | done | cbv))⟩
  ·replace hsK21 := cF c12 hsK21
   refine zf rfl (by first | rfl | simp only [c12, zqa, zqb, zqc, zqd]) ?_
   refine AWp.exit ?_
   refine xT ?_
   refine xT ?_
   refine exL hsK21 fun hx => ?_
   subst hx
   exact oxI ⟨rfl, hkK21, (by first | (cbv; done) | ((repeat (cbv; simp only [c12])); first | done | cbv))⟩
 ·rintro _ ⟨hkK21, rfl⟩
  have h := (eL (hK21 _ hkK21))
  refine xB ?_
  refine nT ?_
  refine zs ?_
  refine zg hT hA {} (by cbv) (lb rfl) ?_
  refine nT ?_
  refine zr ?_
  cases soI h
  exact ⟨rfl, rfl, rfl, lb rfl, _, rfl⟩

theorem C135bw {A : Ar} (hA : A = Ar.std) {x1 : List D} {x2 : Int} {v5 : Bool} (h : C135b A x1 x2 = some v5) : ACall Try.prog 135 [(.d (.list 1 x1)), (.func 165 [] [(.iptr [(.int .i64 x2)])])] [] (.d (.bool v5)) [] := by
 unfold C135b at h
 refine ACall.enter hT (fn := Try.f135) Try.func135 rfl (by decide) (by simp [Try.f135]) rfl rfl rfl rfl (lb rfl) ?_
 refine zs ?_
 refine zg hT hA {} (by cbv) (lb rfl) ?_
 refine nT ?_
 refine zs ?_
 refine zn ?_
 obtain ⟨r4, e3, h⟩ := bindS h
 refine AOps.cc hT hA { tk := [8] } (by cbv) (lb rfl) (C162bw hA e3) rfl (.inl rfl) rfl rfl rfl (lb rfl) rfl rfl ?_
 refine AOps.cd hT hA { tk := [8] } (by cbv) (lb rfl) ?_
 refine nT ?_
 refine zr ?_
 cases soI h
 exact ⟨rfl, rfl, rfl, lb rfl, _, rfl⟩

theorem C164w {A : Ar} (hA : A = Ar.std) {x1 : List D} {x2 : Int} {x3 : Int} {x4 : List D} {x5 : List D} {x6 : Int} {v12 : Bool} (h : C164 A x1 x2 x3 x4 x5 x6 = some v12) : ACall Try.prog 164 [(.d (.list 1 x1)), (.iptr [(.int .i64 x2), (.int .i64 x3), (.list 1 x4), (.list 1 x5)]), (.iptr [(.int .i64 x6)])] [] (.d (.bool v12)) [] := by
 unfold C164 at h
 refine ACall.enter hT (fn := Try.f164) Try.func164 rfl (by decide) (by simp [Try.f164]) rfl rfl rfl rfl (lb rfl) ?_
 refine zs ?_
 refine zg hT hA {} (by cbv) (lb rfl) ?_
 refine nT ?_
 refine zs ?_
 obtain ⟨v10, hvK11, h⟩ := bindS h
 refine AWp.cutN [4] [] 0 (lb rfl) (fun τ => τ = { env := [(4, (.d (.bool v10)))], heap := [], n := 15 }) ?_ ?_
 ·skip
  refine zn ?_
  rcases tf (A.zeq (A.len x1) x3) with c7 | c7
  ·replace hvK11 := cT c7 hvK11
   obtain ⟨r9, e8, hvK11⟩ := bindS hvK11
   refine AOps.cc hT hA { tk := [14] } (by (repeat (cbv; simp only [c7])); first | done | cbv) (lb rfl) (C135bw hA e8) rfl (.inl rfl) rfl rfl rfl (lb rfl) rfl rfl ?_
   refine AOps.cd hT hA { tk := [14] } (by (repeat (cbv; simp only [c7])); first | done | cbv) (lb rfl) ?_
   cases soI hvK11
   exact oNi ⟨rfl, (by first | (cbv; done) | ((repeat (cbv; simp only [c7])); first | done | cbv))⟩
  ·replace hvK11 := cF c7 hvK11
   refine AOps.cd hT hA { tk := [14] } (by (repeat (cbv; simp only [c7])); first | done | cbv) (lb rfl) ?_
   cases soI hvK11
   exact oNi ⟨rfl, (by first | (cbv; done) | ((repeat (cbv; simp only [c7])); first | done | cbv))⟩
 ·rintro _ rfl
  refine nT ?_
  refine zr ?_
  cases soI h
  exact ⟨rfl, rfl, rfl, lb rfl, _, rfl⟩

theorem C134aw {A : Ar} (hA : A = Ar.std) {x1 : List D} {x2 : Int} {x3 : Int} {x4 : List D} {x5 : List D} {x6 : Int} {v26 : Int} (h : C134a A x1 x2 x3 x4 x5 x6 = some v26) : ACall Try.prog 134 [(.d (.list 1 x1)), (.func 164 [] [(.iptr [(.int .i64 x2), (.int .i64 x3), (.list 1 x4), (.list 1 x5)]), (.iptr [(.int .i64 x6)])])] [] (.d (.int .i64 v26)) [] := by
 unfold C134a at h
 refine ACall.enter hT (fn := Try.f134) Try.func134 rfl (by decide) (by simp [Try.f134]) rfl rfl rfl rfl (lb rfl) ?_
 refine zs ?_
 refine zg hT hA {} (by cbv) (lb rfl) ?_
 refine nT ?_
 refine zs ?_
 refine zs ?_
 refine zg hT hA {} (by cbv) (lb rfl) ?_
 refine nT ?_
 refine zb ?_
 obtain ⟨xK25, hxK25, K25, hK25, hkK25⟩ := bindK h
 refine AWp.cutX 0 [] [] 0 (lb rfl) (fun τ => K25 (.inl ()) = some v26 ∧ τ = { env := [], heap := [], n := 19 }) ?_ ?_
 ·skip
  refine AWp.iter hxK25 [0, 1, 7, 8] [] 0 (lb rfl) (fun v15 => { env := [(0, (.d (.list 1 x1))), (1, (.func 164 [] [(.iptr [(.int .i64 x2), (.int .i64 x3), (.list 1 x4), (.list 1 x5)]), (.iptr [(.int .i64 x6)])])), (7, (.d (.int .i64 (A.len x1)))), (8, (.d (.int .i64 v15)))], heap := [], n := 19 }) ⟨rfl, (by cbv)⟩ ?_
  rintro v15 eK25 hsK25
  dsimp only [C134aL0] at hsK25
  refine zs ?_
  refine zg hT hA {} (by cbv) (lb rfl) ?_
  refine nT ?_
  refine zs ?_
  rcases tf (A.zlt v15 (A.len x1)) with c16 | c16
  ·replace hsK25 := cT c16 hsK25
   refine zt rfl (by first | rfl | simp only [c16, zqa, zqb, zqc, zqd]) ?_
   refine zk ?_
   refine nT ?_
   refine zs ?_
   refine zb ?_
   refine zs ?_
   refine zg hT hA { tk := [8, 10] } (by (repeat (cbv; simp only [c16])); first | done | cbv) (lb rfl) ?_
   refine nT ?_
   refine zs ?_
   refine zn ?_
   obtain ⟨a17, e18, hsK25⟩ := bindS hsK25
   obtain ⟨f19, f20⟩ := gtI e18
   obtain ⟨r22, e21, hsK25⟩ := bindS hsK25
   refine AOps.cc hT hA {} (by (repeat (cbv; simp only [c16, f19, f20])); first | done | cbv) (lb rfl) (C164w hA e21) rfl (.inl rfl) rfl rfl rfl (lb rfl) rfl rfl ?_
   refine AOps.cd hT hA {} (by (repeat (cbv; simp only [c16, f19, f20])); first | done | cbv) (lb rfl) ?_
   refine nT ?_
   rcases tf r22 with c23 | c23
   ·replace hsK25 := cT c23 hsK25
    refine zt rfl (by first | rfl | simp only [c16, c23, zqa, zqb, zqc, zqd]) ?_
    refine zs ?_
    refine zg hT hA { tk := [5, 17] } (by (repeat (cbv; simp only [c16, c23])); first | done | cbv) (lb rfl) ?_
    refine nT ?_
    refine zr ?_
    refine rB ?_
    refine rT ?_
    refine rT ?_
    refine exL hsK25 fun hx => ?_
    subst hx
    refine oxR ?_
    replace hkK25 := (eR (hK25 _ hkK25))
    refine rB ?_
    refine rT ?_
    cases soI hkK25
    exact ⟨rfl, rfl, rfl, lb rfl, _, rfl⟩
   ·replace hsK25 := cF c23 hsK25
    refine zf rfl (by first | rfl | simp only [c16, c23, zqa, zqb, zqc, zqd]) ?_
    refine zk ?_
    refine nB ?_
    refine nT ?_
    refine zg hT hA { tk := [18] } (by (repeat (cbv; simp only [c16, c23])); first | done | cbv) (lb rfl) ?_
    exact nT ⟨_, (soI hsK25).symm, rfl, (by first | (cbv; done) | ((repeat (cbv; simp only [c16, c23])); first | done | cbv))⟩
  ·replace hsK25 := cF c16 hsK25
   refine zf rfl (by first | rfl | simp only [c16, zqa, zqb, zqc, zqd]) ?_
   refine AWp.exit ?_
   refine xT ?_
   refine xT ?_
   refine exL hsK25 fun hx => ?_
   subst hx
   exact oxI ⟨rfl, hkK25, (by first | (cbv; done) | ((repeat (cbv; simp only [c16])); first | done | cbv))⟩
 ·rintro _ ⟨hkK25, rfl⟩
  have h := (eL (hK25 _ hkK25))
  refine xB ?_
  refine nT ?_
  refine zs ?_
  refine zg hT hA {} (by cbv) (lb rfl) ?_
  refine nT ?_
  refine zr ?_
  cases soI h
  exact ⟨rfl, rfl, rfl, lb rfl, _, rfl⟩

theorem C101aw {A : Ar} (hA : A = Ar.std) {x1 : List D} {x2 : Int} {x3 : Int} {x4 : List D} {x5 : List D} {x6 : Int} {v9 : Bool} (h : C101a A x1 x2 x3 x4 x5 x6 = some v9) : ACall Try.prog 101 [(.d (.list 1 x1)), (.func 164 [] [(.iptr [(.int .i64 x2), (.int .i64 x3), (.list 1 x4), (.list 1 x5)]), (.iptr [(.int .i64 x6)])])] [] (.d (.bool v9)) [] := by
 unfold C101a at h
 refine ACall.enter hT (fn := Try.f101) Try.func101 rfl (by decide) (by simp [Try.f101]) rfl rfl rfl rfl (lb rfl) ?_
 refine zs ?_
 refine zg hT hA {} (by cbv) (lb rfl) ?_
 refine nT ?_
 refine zs ?_
 refine zn ?_
 obtain ⟨r8, e7, h⟩ := bindS h
 refine AOps.cc hT hA { tk := [8] } (by cbv) (lb rfl) (C134aw hA e7) rfl (.inl rfl) rfl rfl rfl (lb rfl) rfl rfl ?_
 refine AOps.cd hT hA { tk := [8] } (by cbv) (lb rfl) ?_
 refine nT ?_
 refine zr ?_
 cases soI h
 exact ⟨rfl, rfl, rfl, lb rfl, _, rfl⟩

theorem C141w {A : Ar} (hA : A = Ar.std) {x1 : Int} {x2 : Int} {x3 : List D} {x4 : List D} {x5 : List D} {x6 : Int} {v12 : Bool} (h : C141 A x1 x2 x3 x4 x5 x6 = some v12) : ACall Try.prog 141 [(.d (.agg [(.int .i64 x1), (.int .i64 x2), (.list 1 x3), (.list 1 x4)])), (.d (.list 1 x5)), (.d (.int .i64 x6))] [] (.d (.bool v12)) [] := by
 unfold C141 at h
 refine ACall.enter hT (fn := Try.f141) Try.func141 rfl (by decide) (by simp [Try.f141]) rfl rfl rfl rfl (lb rfl) ?_
 refine zs ?_
 refine zg hT hA {} (by cbv) (lb rfl) ?_
 refine nT ?_
 refine AWp.freezeBox 3 [(.int .i64 x1), (.int .i64 x2), (.list 1 x3), (.list 1 x4)] rfl rfl ?_
 refine AWp.freezeBox 5 [(.int .i64 x6)] rfl rfl ?_
 refine zs ?_
 obtain ⟨v10, hvK11, h⟩ := bindS h
 refine AWp.cutN [6] [] 0 (lb rfl) (fun τ => τ = { env := [(6, (.d (.bool v10)))], heap := [], n := 18 }) ?_ ?_
 ·skip
  refine zn ?_
  rcases tf (A.zeq (A.len x5) x1) with c7 | c7
  ·replace hvK11 := cT c7 hvK11
   obtain ⟨r9, e8, hvK11⟩ := bindS hvK11
   refine AOps.cc hT hA { tk := [17] } (by (repeat (cbv; simp only [c7])); first | done | cbv) (lb rfl) (C101aw hA e8) rfl (.inl rfl) rfl rfl rfl (lb rfl) rfl rfl ?_
   refine AOps.cd hT hA { tk := [17] } (by (repeat (cbv; simp only [c7])); first | done | cbv) (lb rfl) ?_
   cases soI hvK11
   exact oNi ⟨rfl, (by first | (cbv; done) | ((repeat (cbv; simp only [c7])); first | done | cbv))⟩
  ·replace hvK11 := cF c7 hvK11
   refine AOps.cd hT hA { tk := [17] } (by (repeat (cbv; simp only [c7])); first | done | cbv) (lb rfl) ?_
   cases soI hvK11
   exact oNi ⟨rfl, (by first | (cbv; done) | ((repeat (cbv; simp only [c7])); first | done | cbv))⟩
 ·rintro _ rfl
  refine nT ?_
  refine zr ?_
  cases soI h
  exact ⟨rfl, rfl, rfl, lb rfl, _, rfl⟩

theorem C115w {A : Ar} (hA : A = Ar.std) {x1 : Int} {x2 : Int} {x3 : List D} {x4 : List D} {v18 : Bool} (h : C115 A x1 x2 x3 x4 = some v18) : ACall Try.prog 115 [(.d (.agg [(.int .i64 x1), (.int .i64 x2), (.list 1 x3), (.list 1 x4)]))] [] (.d (.bool v18)) [] := by
 unfold C115 at h
 refine ACall.enter hT (fn := Try.f115) Try.func115 rfl (by decide) (by simp [Try.f115]) rfl rfl rfl rfl (lb rfl) ?_
 refine zs ?_
 refine zg hT hA {} (by cbv) (lb rfl) ?_
 refine nT ?_
 refine zs ?_
 obtain ⟨v16, hvK17, h⟩ := bindS h
 refine AWp.cutN [2] [] 0 (lb rfl) (fun τ => τ = { env := [(2, (.d (.bool v16)))], heap := [], n := 26 }) ?_ ?_
 ·skip
  refine zn ?_
  obtain ⟨r6, e5, hvK17⟩ := bindS hvK17
  refine AOps.cc hT hA { tk := [25] } (by cbv) (lb rfl) (C140w hA e5) rfl (.inl rfl) rfl rfl rfl (lb rfl) rfl rfl ?_
  rcases tf r6 with c7 | c7
  ·replace hvK17 := cT c7 hvK17
   obtain ⟨r9, e8, hvK17⟩ := bindS hvK17
   refine AOps.cc hT hA { tk := [25] } (by (repeat (cbv; simp only [c7])); first | done | cbv) (lb rfl) (C140w hA e8) rfl (.inl rfl) rfl rfl rfl (lb rfl) rfl rfl ?_
   rcases tf r9 with c10 | c10
   ·replace hvK17 := cT c10 hvK17
    obtain ⟨r12, e11, hvK17⟩ := bindS hvK17
    refine AOps.cc hT hA { tk := [25] } (by (repeat (cbv; simp only [c7, c10])); first | done | cbv) (lb rfl) (C141w hA e11) rfl (.inl rfl) rfl rfl rfl (lb rfl) rfl rfl ?_
    rcases tf r12 with c13 | c13
    ·replace hvK17 := cT c13 hvK17
     obtain ⟨r15, e14, hvK17⟩ := bindS hvK17
     refine AOps.cc hT hA { tk := [25] } (by (repeat (cbv; simp only [c7, c10, c13])); first | done | cbv) (lb rfl) (C141w hA e14) rfl (.inl rfl) rfl rfl rfl (lb rfl) rfl rfl ?_
     refine AOps.cd hT hA { tk := [25] } (by (repeat (cbv; simp only [c7, c10, c13])); first | done | cbv) (lb rfl) ?_
     cases soI hvK17
     exact oNi ⟨rfl, (by first | (cbv; done) | ((repeat (cbv; simp only [c7, c10, c13])); first | done | cbv))⟩
    ·replace hvK17 := cF c13 hvK17
     refine AOps.cd hT hA { tk := [25] } (by (repeat (cbv; simp only [c7, c10, c13])); first | done | cbv) (lb rfl) ?_
     cases soI hvK17
     exact oNi ⟨rfl, (by first | (cbv; done) | ((repeat (cbv; simp only [c7, c10, c13])); first | done | cbv))⟩
   ·replace hvK17 := cF c10 hvK17
    refine AOps.cd hT hA { tk := [25] } (by (repeat (cbv; simp only [c7, c10])); first | done | cbv) (lb rfl) ?_
    cases soI hvK17
    exact oNi ⟨rfl, (by first | (cbv; done) | ((repeat (cbv; simp only [c7, c10])); first | done | cbv))⟩
  ·replace hvK17 := cF c7 hvK17
   refine AOps.cd hT hA { tk := [25] } (by (repeat (cbv; simp only [c7])); first | done | cbv) (lb rfl) ?_
   cases soI hvK17
   exact oNi ⟨rfl, (by first | (cbv; done) | ((repeat (cbv; simp only [c7])); first | done | cbv))⟩
 ·rintro _ rfl
  refine nT ?_
  refine zr ?_
  cases soI h
  exact ⟨rfl, rfl, rfl, lb rfl, _, rfl⟩

theorem C68w {A : Ar} (hA : A = Ar.std) {x1 : Int} {x2 : Int} {x3 : List D} {x4 : List D} {x5 : List D} {x6 : List D} {v18 : Int} (h : C68 A x1 x2 x3 x4 x5 x6 = some v18) : ACall Try.prog 68 [(.d (.agg [(.int .i64 x1), (.int .i64 x2), (.list 1 x3), (.list 1 x4)])), (.d (.list 1 x5)), (.d (.list 1 x6))] [] (.d (.int .i64 v18)) [] := by
 unfold C68 at h
 refine ACall.enter hT (fn := Try.f68) Try.func68 rfl (by decide) (by simp [Try.f68]) rfl rfl rfl rfl (lb rfl) ?_
 refine zs ?_
 refine zg hT hA {} (by cbv) (lb rfl) ?_
 refine nT ?_
 refine zs ?_
 refine zb ?_
 refine zs ?_
 refine zn ?_
 obtain ⟨r8, e7, h⟩ := bindS h
 refine AOps.cc hT hA {} (by cbv) (lb rfl) (C15w hA e7) rfl (.inl rfl) rfl rfl rfl (lb rfl) rfl rfl ?_
 refine AOps.cd hT hA {} (by cbv) (lb rfl) ?_
 refine nT ?_
 rcases tf r8 with c9 | c9
 ·replace h := cT c9 h
  refine zf rfl (by first | rfl | simp only [c9, zqa, zqb, zqc, zqd]) ?_
  refine zs ?_
  obtain ⟨v13, hvK14, h⟩ := bindS h
  refine AWp.cutN [1, 2, 11] [] 0 (lb rfl) (fun τ => τ = { env := [(1, (.d (.list 1 x5))), (2, (.d (.list 1 x6))), (11, (.d (.bool v13)))], heap := [], n := 25 }) ?_ ?_
  ·skip
   refine zn ?_
   obtain ⟨r11, e10, hvK14⟩ := bindS hvK14
   refine AOps.cc hT hA {} (by (repeat (cbv; simp only [c9])); first | done | cbv) (lb rfl) (C115w hA e10) rfl (.inl rfl) rfl rfl rfl (lb rfl) rfl rfl ?_
   rcases tf r11 with c12 | c12
   ·replace hvK14 := cT c12 hvK14
    refine AOps.cd hT hA {} (by (repeat (cbv; simp only [c9, c12])); first | done | cbv) (lb rfl) ?_
    cases soI hvK14
    exact oNi ⟨rfl, (by first | (cbv; done) | ((repeat (cbv; simp only [c9, c12])); first | done | cbv))⟩
   ·replace hvK14 := cF c12 hvK14
    refine AOps.cd hT hA {} (by (repeat (cbv; simp only [c9, c12])); first | done | cbv) (lb rfl) ?_
    cases soI hvK14
    exact oNi ⟨rfl, (by first | (cbv; done) | ((repeat (cbv; simp only [c9, c12])); first | done | cbv))⟩
  ·rintro _ rfl
   refine nT ?_
   rcases tf v13 with c15 | c15
   ·replace h := cT c15 h
    refine zt rfl (by first | rfl | simp only [c15, zqa, zqb, zqc, zqd]) ?_
    refine zs ?_
    refine zg hT hA {} (by (repeat (cbv; simp only [c15])); first | done | cbv) (lb rfl) ?_
    refine nT ?_
    refine zr ?_
    refine rB ?_
    refine rT ?_
    cases soI h
    exact ⟨rfl, rfl, rfl, lb rfl, _, rfl⟩
   ·replace h := cF c15 h
    refine zf rfl (by first | rfl | simp only [c15, zqa, zqb, zqc, zqd]) ?_
    refine zk ?_
    refine nB ?_
    refine nT ?_
    refine zs ?_
    refine zn ?_
    obtain ⟨r17, e16, h⟩ := bindS h
    refine AOps.cc hT hA { tk := [24] } (by (repeat (cbv; simp only [c15])); first | done | cbv) (lb rfl) (C89w hA e16) rfl (.inl rfl) rfl rfl rfl (lb rfl) rfl rfl ?_
    refine AOps.cd hT hA { tk := [24] } (by (repeat (cbv; simp only [c15])); first | done | cbv) (lb rfl) ?_
    refine nT ?_
    refine zr ?_
    cases soI h
    exact ⟨rfl, rfl, rfl, lb rfl, _, rfl⟩
 ·replace h := cF c9 h
  refine zt rfl (by first | rfl | simp only [c9, zqa, zqb, zqc, zqd]) ?_
  refine zs ?_
  refine zg hT hA {} (by (repeat (cbv; simp only [c9])); first | done | cbv) (lb rfl) ?_
  refine nT ?_
  refine zr ?_
  refine rB ?_
  refine rT ?_
  cases soI h
  exact ⟨rfl, rfl, rfl, lb rfl, _, rfl⟩

theorem C144w {A : Ar} (hA : A = Ar.std) {x1 : Int} {x2 : Int} {x3 : Int} {x4 : List D} {x5 : List D} {v8 : Bool} (h : C144 A x1 x2 x3 x4 x5 = some v8) : ACall Try.prog 144 [(.d (.int .i64 x1)), (.iptr [(.int .i64 x2), (.int .i64 x3), (.list 1 x4), (.list 1 x5)])] [] (.d (.bool v8)) [] := by
 unfold C144 at h
 refine ACall.enter hT (fn := Try.f144) Try.func144 rfl (by decide) (by simp [Try.f144]) rfl rfl rfl rfl (lb rfl) ?_
 refine zs ?_
 refine zg hT hA {} (by cbv) (lb rfl) ?_
 refine nT ?_
 refine zs ?_
 refine zn ?_
 obtain ⟨r7, e6, h⟩ := bindS h
 refine AOps.cc hT hA { tk := [9] } (by cbv) (lb rfl) (C140w hA e6) rfl (.inl rfl) rfl rfl rfl (lb rfl) rfl rfl ?_
 refine AOps.cd hT hA { tk := [9] } (by cbv) (lb rfl) ?_
 refine nT ?_
 refine zr ?_
 cases soI h
 exact ⟨rfl, rfl, rfl, lb rfl, _, rfl⟩

theorem C162cw {A : Ar} (hA : A = Ar.std) {x1 : List D} {x2 : Int} {x3 : Int} {x4 : List D} {x5 : List D} {v25 : Int} (h : C162c A x1 x2 x3 x4 x5 = some v25) : ACall Try.prog 162 [(.d (.list 1 x1)), (.func 144 [] [(.iptr [(.int .i64 x2), (.int .i64 x3), (.list 1 x4), (.list 1 x5)])])] [] (.d (.int .i64 v25)) [] := by
 unfold C162c at h
 refine ACall.enter hT (fn := Try.f162) Try.func162 rfl (by decide) (by simp [Try.f162]) rfl rfl rfl rfl (lb rfl) ?_
 refine zs ?_
 refine zg hT hA {} (by cbv) (lb rfl) ?_
 refine nT ?_
 refine zs ?_
 refine zs ?_
 refine zg hT hA {} (by cbv) (lb rfl) ?_
 refine nT ?_
 refine zb ?_
 obtain ⟨xK24, hxK24, K24, hK24, hkK24⟩ := bindK h
 refine AWp.cutX 0 [] [] 0 (lb rfl) (fun τ => K24 (.inl ()) = some v25 ∧ τ = { env := [], heap := [], n := 19 }) ?_ ?_
 ·skip
  refine AWp.iter hxK24 [0, 1, 7, 8] [] 0 (lb rfl) (fun v14 => { env := [(0, (.d (.list 1 x1))), (1, (.func 144 [] [(.iptr [(.int .i64 x2), (.int .i64 x3), (.list 1 x4), (.list 1 x5)])])), (7, (.d (.int .i64 (A.len x1)))), (8, (.d (.int .i64 v14)))], heap := [], n := 19 }) ⟨rfl, (by cbv)⟩ ?_
  rintro v14 eK24 hsK24
  dsimp only [C162cL0] at hsK24
  refine zs ?_
  refine zg hT hA {} (by cbv) (lb rfl) ?_
  refine nT ?_
  refine zs ?_
  rcases tf (A.zlt v14 (A.len x1)) with c15 | c15
  ·replace hsK24 := cT c15 hsK24
   refine zt rfl (by first | rfl | simp only [c15, zqa, zqb, zqc, zqd]) ?_
   refine zk ?_
   refine nT ?_
   refine zs ?_
   refine zb ?_
   refine zs ?_
   refine zg hT hA { tk := [8, 10] } (by (repeat (cbv; simp only [c15])); first | done | cbv) (lb rfl) ?_
   refine nT ?_
   refine zs ?_
   refine zn ?_
   obtain ⟨a16, e17, hsK24⟩ := bindS hsK24
   obtain ⟨f18, f19⟩ := gtI e17
   obtain ⟨r21, e20, hsK24⟩ := bindS hsK24
   refine AOps.cc hT hA {} (by (repeat (cbv; simp only [c15, f18, f19])); first | done | cbv) (lb rfl) (C144w hA e20) rfl (.inl rfl) rfl rfl rfl (lb rfl) rfl rfl ?_
   refine AOps.cd hT hA {} (by (repeat (cbv; simp only [c15, f18, f19])); first | done | cbv) (lb rfl) ?_
   refine nT ?_
   rcases tf r21 with c22 | c22
   ·replace hsK24 := cT c22 hsK24
    refine zt rfl (by first | rfl | simp only [c15, c22, zqa, zqb, zqc, zqd]) ?_
    refine zs ?_
    refine zg hT hA { tk := [5, 17] } (by (repeat (cbv; simp only [c15, c22])); first | done | cbv) (lb rfl) ?_
    refine nT ?_
    refine zr ?_
    refine rB ?_
    refine rT ?_
    refine rT ?_
    refine exL hsK24 fun hx => ?_
    subst hx
    refine oxR ?_
    replace hkK24 := (eR (hK24 _ hkK24))
    refine rB ?_
    refine rT ?_
    cases soI hkK24
    exact ⟨rfl, rfl, rfl, lb rfl, _, rfl⟩
   ·replace hsK24 := cF c22 hsK24
    refine zf rfl (by first | rfl | simp only [c15, c22, zqa, zqb, zqc, zqd]) ?_
    refine zk ?_
    refine nB ?_
    refine nT ?_
    refine zg hT hA { tk := [18] } (by (repeat (cbv; simp only [c15, c22])); first | done | cbv) (lb rfl) ?_
    exact nT ⟨_, (soI hsK24).symm, rfl, (by first | (cbv; done) | ((repeat (cbv; simp only [c15, c22])); first | done | cbv))⟩
  ·replace hsK24 := cF c15 hsK24
   refine zf rfl (by first | rfl | simp only [c15, zqa, zqb, zqc, zqd]) ?_
   refine AWp.exit ?_
   refine xT ?_
   refine xT ?_
   refine exL hsK24 fun hx => ?_
   subst hx
   exact oxI ⟨rfl, hkK24, (by first | (cbv; done) | ((repeat (cbv; simp only [c15])); first | done | cbv))⟩
 ·rintro _ ⟨hkK24, rfl⟩
  have h := (eL (hK24 _ hkK24))
  refine xB ?_
  refine nT ?_
  refine zs ?_
  refine zg hT hA {} (by cbv) (lb rfl) ?_
  refine nT ?_
  refine zr ?_
  cases soI h
  exact ⟨rfl, rfl, rfl, lb rfl, _, rfl⟩

theorem C135cw {A : Ar} (hA : A = Ar.std) {x1 : List D} {x2 : Int} {x3 : Int} {x4 : List D} {x5 : List D} {v8 : Bool} (h : C135c A x1 x2 x3 x4 x5 = some v8) : ACall Try.prog 135 [(.d (.list 1 x1)), (.func 144 [] [(.iptr [(.int .i64 x2), (.int .i64 x3), (.list 1 x4), (.list 1 x5)])])] [] (.d (.bool v8)) [] := by
 unfold C135c at h
 refine ACall.enter hT (fn := Try.f135) Try.func135 rfl (by decide) (by simp [Try.f135]) rfl rfl rfl rfl (lb rfl) ?_
 refine zs ?_
 refine zg hT hA {} (by cbv) (lb rfl) ?_
 refine nT ?_
 refine zs ?_
 refine zn ?_
 obtain ⟨r7, e6, h⟩ := bindS h
 refine AOps.cc hT hA { tk := [8] } (by cbv) (lb rfl) (C162cw hA e6) rfl (.inl rfl) rfl rfl rfl (lb rfl) rfl rfl ?_
 refine AOps.cd hT hA { tk := [8] } (by cbv) (lb rfl) ?_
 refine nT ?_
 refine zr ?_
 cases soI h
 exact ⟨rfl, rfl, rfl, lb rfl, _, rfl⟩

theorem C121w {A : Ar} (hA : A = Ar.std) {x1 : Int} {x2 : Int} {x3 : List D} {x4 : List D} {x5 : List D} {v8 : Bool} (h : C121 A x1 x2 x3 x4 x5 = some v8) : ACall Try.prog 121 [(.d (.agg [(.int .i64 x1), (.int .i64 x2), (.list 1 x3), (.list 1 x4)])), (.d (.list 1 x5))] [] (.d (.bool v8)) [] := by
 unfold C121 at h
 refine ACall.enter hT (fn := Try.f121) Try.func121 rfl (by decide) (by simp [Try.f121]) rfl rfl rfl rfl (lb rfl) ?_
 refine zs ?_
 refine zg hT hA {} (by cbv) (lb rfl) ?_
 refine nT ?_
 refine AWp.freezeBox 2 [(.int .i64 x1), (.int .i64 x2), (.list 1 x3), (.list 1 x4)] rfl rfl ?_
 refine zs ?_
 refine zn ?_
 obtain ⟨r7, e6, h⟩ := bindS h
 refine AOps.cc hT hA { tk := [8] } (by cbv) (lb rfl) (C135cw hA e6) rfl (.inl rfl) rfl rfl rfl (lb rfl) rfl rfl ?_
 refine AOps.cd hT hA { tk := [8] } (by cbv) (lb rfl) ?_
 refine nT ?_
 refine zr ?_
 cases soI h
 exact ⟨rfl, rfl, rfl, lb rfl, _, rfl⟩

theorem C167w {A : Ar} (hA : A = Ar.std) {x1 : Int} {x2 : Int} {x3 : Int} {x4 : List D} {x5 : List D} {v8 : Bool} (h : C167 A x1 x2 x3 x4 x5 = some v8) : ACall Try.prog 167 [(.d (.int .i64 x1)), (.iptr [(.int .i64 x2), (.int .i64 x3), (.list 1 x4), (.list 1 x5)])] [] (.d (.bool v8)) [] := by
 unfold C167 at h
 refine ACall.enter hT (fn := Try.f167) Try.func167 rfl (by decide) (by simp [Try.f167]) rfl rfl rfl rfl (lb rfl) ?_
 refine zs ?_
 refine zg hT hA {} (by cbv) (lb rfl) ?_
 refine nT ?_
 refine zs ?_
 refine zn ?_
 obtain ⟨r7, e6, h⟩ := bindS h
 refine AOps.cc hT hA { tk := [9] } (by cbv) (lb rfl) (C140w hA e6) rfl (.inl rfl) rfl rfl rfl (lb rfl) rfl rfl ?_
 refine AOps.cd hT hA { tk := [9] } (by cbv) (lb rfl) ?_
 refine nT ?_
 refine zr ?_
 cases soI h
 exact ⟨rfl, rfl, rfl, lb rfl, _, rfl⟩

theorem C162dw {A : Ar} (hA : A = Ar.std) {x1 : List D} {x2 : Int} {x3 : Int} {x4 : List D} {x5 : List D} {v25 : Int} (h : C162d A x1 x2 x3 x4 x5 = some v25) : ACall Try.prog 162 [(.d (.list 1 x1)), (.func 167 [] [(.iptr [(.int .i64 x2), (.int .i64 x3), (.list 1 x4), (.list 1 x5)])])] [] (.d (.int .i64 v25)) [] := by
 unfold C162d at h
 refine ACall.enter hT (fn := Try.f162) Try.func162 rfl (by decide) (by simp [Try.f162]) rfl rfl rfl rfl (lb rfl) ?_
 refine zs ?_
 refine zg hT hA {} (by cbv) (lb rfl) ?_
 refine nT ?_
 refine zs ?_
 refine zs ?_
 refine zg hT hA {} (by cbv) (lb rfl) ?_
 refine nT ?_
 refine zb ?_
 obtain ⟨xK24, hxK24, K24, hK24, hkK24⟩ := bindK h
 refine AWp.cutX 0 [] [] 0 (lb rfl) (fun τ => K24 (.inl ()) = some v25 ∧ τ = { env := [], heap := [], n := 19 }) ?_ ?_
 ·skip
  refine AWp.iter hxK24 [0, 1, 7, 8] [] 0 (lb rfl) (fun v14 => { env := [(0, (.d (.list 1 x1))), (1, (.func 167 [] [(.iptr [(.int .i64 x2), (.int .i64 x3), (.list 1 x4), (.list 1 x5)])])), (7, (.d (.int .i64 (A.len x1)))), (8, (.d (.int .i64 v14)))], heap := [], n := 19 }) ⟨rfl, (by cbv)⟩ ?_
  rintro v14 eK24 hsK24
  dsimp only [C162dL0] at hsK24
  refine zs ?_
  refine zg hT hA {} (by cbv) (lb rfl) ?_
  refine nT ?_
  refine zs ?_
  rcases tf (A.zlt v14 (A.len x1)) with c15 | c15
  ·replace hsK24 := cT c15 hsK24
   refine zt rfl (by first | rfl | simp only [c15, zqa, zqb, zqc, zqd]) ?_
   refine zk ?_
   refine nT ?_
   refine zs ?_
   refine zb ?_
   refine zs ?_
   refine zg hT hA { tk := [8, 10] } (by (repeat (cbv; simp only [c15])); first | done | cbv) (lb rfl) ?_
   refine nT ?_
   refine zs ?_
   refine zn ?_
   obtain ⟨a16, e17, hsK24⟩ := bindS hsK24
   obtain ⟨f18, f19⟩ := gtI e17
   obtain ⟨r21, e20, hsK24⟩ := bindS hsK24
   refine AOps.cc hT hA {} (by (repeat (cbv; simp only [c15, f18, f19])); first | done | cbv) (lb rfl) (C167w hA e20) rfl (.inl rfl) rfl rfl rfl (lb rfl) rfl rfl ?_
   refine AOps.cd hT hA {} (by (repeat (cbv; simp only [c15, f18, f19])); first | done | cbv) (lb rfl) ?_
   refine nT ?_
   rcases tf r21 with c22 | c22
   ·replace hsK24 := cT c22 hsK24
    refine zt rfl (by first | rfl | simp only [c15, c22, zqa, zqb, zqc, zqd]) ?_
    refine zs ?_
    refine zg hT hA { tk := [5, 17] } (by (repeat (cbv; simp only [c15, c22])); first | done | cbv) (lb rfl) ?_
    refine nT ?_
    refine zr ?_
    refine rB ?_
    refine rT ?_
    refine rT ?_
    refine exL hsK24 fun hx => ?_
    subst hx
    refine oxR ?_
    replace hkK24 := (eR (hK24 _ hkK24))
    refine rB ?_
    refine rT ?_
    cases soI hkK24
    exact ⟨rfl, rfl, rfl, lb rfl, _, rfl⟩
   ·replace hsK24 := cF c22 hsK24
    refine zf rfl (by first | rfl | simp only [c15, c22, zqa, zqb, zqc, zqd]) ?_
    refine zk ?_
    refine nB ?_
    refine nT ?_
    refine zg hT hA { tk := [18] } (by (repeat (cbv; simp only [c15, c22])); first | done | cbv) (lb rfl) ?_
    exact nT ⟨_, (soI hsK24).symm, rfl, (by first | (cbv; done) | ((repeat (cbv; simp only [c15, c22])); first | done | cbv))⟩
  ·replace hsK24 := cF c15 hsK24
   refine zf rfl (by first | rfl | simp only [c15, zqa, zqb, zqc, zqd]) ?_
   refine AWp.exit ?_
   refine xT ?_
   refine xT ?_
   refine exL hsK24 fun hx => ?_
   subst hx
   exact oxI ⟨rfl, hkK24, (by first | (cbv; done) | ((repeat (cbv; simp only [c15])); first | done | cbv))⟩
 ·rintro _ ⟨hkK24, rfl⟩
  have h := (eL (hK24 _ hkK24))
  refine xB ?_
  refine nT ?_
  refine zs ?_
  refine zg hT hA {} (by cbv) (lb rfl) ?_
  refine nT ?_
  refine zr ?_
  cases soI h
  exact ⟨rfl, rfl, rfl, lb rfl, _, rfl⟩

theorem C135dw {A : Ar} (hA : A = Ar.std) {x1 : List D} {x2 : Int} {x3 : Int} {x4 : List D} {x5 : List D} {v8 : Bool} (h : C135d A x1 x2 x3 x4 x5 = some v8) : ACall Try.prog 135 [(.d (.list 1 x1)), (.func 167 [] [(.iptr [(.int .i64 x2), (.int .i64 x3), (.list 1 x4), (.list 1 x5)])])] [] (.d (.bool v8)) [] := by
 unfold C135d at h
 refine ACall.enter hT (fn := Try.f135) Try.func135 rfl (by decide) (by simp [Try.f135]) rfl rfl rfl rfl (lb rfl) ?_
 refine zs ?_
 refine zg hT hA {} (by cbv) (lb rfl) ?_
 refine nT ?_
 refine zs ?_
 refine zn ?_
 obtain ⟨r7, e6, h⟩ := bindS h
 refine AOps.cc hT hA { tk := [8] } (by cbv) (lb rfl) (C162dw hA e6) rfl (.inl rfl) rfl rfl rfl (lb rfl) rfl rfl ?_
 refine AOps.cd hT hA { tk := [8] } (by cbv) (lb rfl) ?_
 refine nT ?_
 refine zr ?_
 cases soI h
 exact ⟨rfl, rfl, rfl, lb rfl, _, rfl⟩

theorem C145w {A : Ar} (hA : A = Ar.std) {x1 : Int} {x2 : Int} {x3 : List D} {x4 : List D} {x5 : List D} {v8 : Bool} (h : C145 A x1 x2 x3 x4 x5 = some v8) : ACall Try.prog 145 [(.d (.agg [(.int .i64 x1), (.int .i64 x2), (.list 1 x3), (.list 1 x4)])), (.d (.list 1 x5))] [] (.d (.bool v8)) [] := by
 unfold C145 at h
 refine ACall.enter hT (fn := Try.f145) Try.func145 rfl (by decide) (by simp [Try.f145]) rfl rfl rfl rfl (lb rfl) ?_
 refine zs ?_
 refine zg hT hA {} (by cbv) (lb rfl) ?_
 refine nT ?_
 refine AWp.freezeBox 2 [(.int .i64 x1), (.int .i64 x2), (.list 1 x3), (.list 1 x4)] rfl rfl ?_
 refine zs ?_
 refine zn ?_
 obtain ⟨r7, e6, h⟩ := bindS h
 refine AOps.cc hT hA { tk := [8] } (by cbv) (lb rfl) (C135dw hA e6) rfl (.inl rfl) rfl rfl rfl (lb rfl) rfl rfl ?_
 refine AOps.cd hT hA { tk := [8] } (by cbv) (lb rfl) ?_
 refine nT ?_
 refine zr ?_
 cases soI h
 exact ⟨rfl, rfl, rfl, lb rfl, _, rfl⟩

theorem C122w {A : Ar} (hA : A = Ar.std) {x1 : Int} {x2 : Int} {x3 : List D} {x4 : List D} {x5 : List D} {v11 : Bool} (h : C122 A x1 x2 x3 x4 x5 = some v11) : ACall Try.prog 122 [(.d (.agg [(.int .i64 x1), (.int .i64 x2), (.list 1 x3), (.list 1 x4)])), (.d (.list 1 x5))] [] (.d (.bool v11)) [] := by
 unfold C122 at h
 refine ACall.enter hT (fn := Try.f122) Try.func122 rfl (by decide) (by simp [Try.f122]) rfl rfl rfl rfl (lb rfl) ?_
 refine zs ?_
 refine zg hT hA {} (by cbv) (lb rfl) ?_
 refine nT ?_
 refine zs ?_
 obtain ⟨v9, hvK10, h⟩ := bindS h
 refine AWp.cutN [4] [] 0 (lb rfl) (fun τ => τ = { env := [(4, (.d (.bool v9)))], heap := [], n := 13 }) ?_ ?_
 ·skip
  refine zn ?_
  rcases tf (A.zle (A.len x5) 20) with c6 | c6
  ·replace hvK10 := cT c6 hvK10
   obtain ⟨r8, e7, hvK10⟩ := bindS hvK10
   refine AOps.cc hT hA { tk := [12] } (by (repeat (cbv; simp only [c6])); first | done | cbv) (lb rfl) (C145w hA e7) rfl (.inl rfl) rfl rfl rfl (lb rfl) rfl rfl ?_
   refine AOps.cd hT hA { tk := [12] } (by (repeat (cbv; simp only [c6])); first | done | cbv) (lb rfl) ?_
   cases soI hvK10
   exact oNi ⟨rfl, (by first | (cbv; done) | ((repeat (cbv; simp only [c6])); first | done | cbv))⟩
  ·replace hvK10 := cF c6 hvK10
   refine AOps.cd hT hA { tk := [12] } (by (repeat (cbv; simp only [c6])); first | done | cbv) (lb rfl) ?_
   cases soI hvK10
   exact oNi ⟨rfl, (by first | (cbv; done) | ((repeat (cbv; simp only [c6])); first | done | cbv))⟩
 ·rintro _ rfl
  refine nT ?_
  refine zr ?_
  cases soI h
  exact ⟨rfl, rfl, rfl, lb rfl, _, rfl⟩

theorem C120w {A : Ar} (hA : A = Ar.std) {x1 : Int} {x2 : Int} {x3 : List D} {x4 : List D} {x5 : Int} {x6 : List D} {v14 : Bool} (h : C120 A x1 x2 x3 x4 x5 x6 = some v14) : ACall Try.prog 120 [(.d (.agg [(.int .i64 x1), (.int .i64 x2), (.list 1 x3), (.list 1 x4)])), (.iptr [(.int .i64 x5)]), (.iptr [(.list 1 x6)])] [] (.d (.bool v14)) [] := by
 unfold C120 at h
 refine ACall.enter hT (fn := Try.f120) Try.func120 rfl (by decide) (by simp [Try.f120]) rfl rfl rfl rfl (lb rfl) ?_
 refine zs ?_
 refine zg hT hA {} (by cbv) (lb rfl) ?_
 refine nT ?_
 refine zs ?_
 obtain ⟨v12, hvK13, h⟩ := bindS h
 refine AWp.cutN [4] [] 0 (lb rfl) (fun τ => τ = { env := [(4, (.d (.bool v12)))], heap := [], n := 14 }) ?_ ?_
 ·skip
  refine zn ?_
  obtain ⟨r8, e7, hvK13⟩ := bindS hvK13
  refine AOps.cc hT hA { tk := [13] } (by cbv) (lb rfl) (C121w hA e7) rfl (.inl rfl) rfl rfl rfl (lb rfl) rfl rfl ?_
  rcases tf r8 with c9 | c9
  ·replace hvK13 := cT c9 hvK13
   obtain ⟨r11, e10, hvK13⟩ := bindS hvK13
   refine AOps.cc hT hA { tk := [13] } (by (repeat (cbv; simp only [c9])); first | done | cbv) (lb rfl) (C122w hA e10) rfl (.inl rfl) rfl rfl rfl (lb rfl) rfl rfl ?_
   refine AOps.cd hT hA { tk := [13] } (by (repeat (cbv; simp only [c9])); first | done | cbv) (lb rfl) ?_
   cases soI hvK13
   exact oNi ⟨rfl, (by first | (cbv; done) | ((repeat (cbv; simp only [c9])); first | done | cbv))⟩
  ·replace hvK13 := cF c9 hvK13
   refine AOps.cd hT hA { tk := [13] } (by (repeat (cbv; simp only [c9])); first | done | cbv) (lb rfl) ?_
   cases soI hvK13
   exact oNi ⟨rfl, (by first | (cbv; done) | ((repeat (cbv; simp only [c9])); first | done | cbv))⟩
 ·rintro _ rfl
  refine nT ?_
  refine zr ?_
  cases soI h
  exact ⟨rfl, rfl, rfl, lb rfl, _, rfl⟩

theorem C119w {A : Ar} (hA : A = Ar.std) {x1 : Int} {x2 : Int} {x3 : List D} {x4 : List D} {x5 : Int} {x6 : List D} {v13 : Int} {v14 : Int} {v15 : List D} {v16 : List D} {v17 : Int} (h : C119 A x1 x2 x3 x4 x5 x6 = some (v13, v14, v15, v16, v17)) : ACall Try.prog 119 [(.d (.agg [(.int .i64 x1), (.int .i64 x2), (.list 1 x3), (.list 1 x4)])), (.func 120 [] [(.iptr [(.int .i64 x5)]), (.iptr [(.list 1 x6)])])] [] (.tuple [(.d (.agg [(.int .i64 v13), (.int .i64 v14), (.list 1 v15), (.list 1 v16)])), (.d (.int .i64 v17))]) [] := by
 unfold C119 at h
 refine ACall.enter hT (fn := Try.f119) Try.func119 rfl (by decide) (by simp [Try.f119]) rfl rfl rfl rfl (lb rfl) ?_
 refine zs ?_
 refine zg hT hA {} (by cbv) (lb rfl) ?_
 refine nT ?_
 refine zs ?_
 refine zb ?_
 refine zs ?_
 refine zn ?_
 obtain ⟨r8, e7, h⟩ := bindS h
 refine AOps.cc hT hA {} (by cbv) (lb rfl) (C115w hA e7) rfl (.inl rfl) rfl rfl rfl (lb rfl) rfl rfl ?_
 refine AOps.cd hT hA {} (by cbv) (lb rfl) ?_
 refine nT ?_
 rcases tf r8 with c9 | c9
 ·replace h := cT c9 h
  refine zf rfl (by first | rfl | simp only [c9, zqa, zqb, zqc, zqd]) ?_
  refine zs ?_
  refine zn ?_
  obtain ⟨r11, e10, h⟩ := bindS h
  refine AOps.cc hT hA {} (by (repeat (cbv; simp only [c9])); first | done | cbv) (lb rfl) (C120w hA e10) rfl (.inl rfl) rfl rfl rfl (lb rfl) rfl rfl ?_
  refine AOps.cd hT hA {} (by (repeat (cbv; simp only [c9])); first | done | cbv) (lb rfl) ?_
  refine nT ?_
  rcases tf r11 with c12 | c12
  ·replace h := cT c12 h
   refine zf rfl (by first | rfl | simp only [c9, c12, zqa, zqb, zqc, zqd]) ?_
   refine zk ?_
   refine nB ?_
   refine nT ?_
   refine zs ?_
   refine zg hT hA { tk := [17] } (by (repeat (cbv; simp only [c9, c12])); first | done | cbv) (lb rfl) ?_
   refine nT ?_
   refine zr ?_
   cases soI h
   exact ⟨rfl, rfl, rfl, lb rfl, _, rfl⟩
  ·replace h := cF c12 h
   refine zt rfl (by first | rfl | simp only [c9, c12, zqa, zqb, zqc, zqd]) ?_
   refine zs ?_
   refine zg hT hA { tk := [16], nl := [16] } (by (repeat (cbv; simp only [c9, c12])); first | done | cbv) (lb rfl) ?_
   refine nT ?_
   refine zr ?_
   refine rB ?_
   refine rT ?_
   cases soI h
   exact ⟨rfl, rfl, rfl, lb rfl, _, rfl⟩
 ·replace h := cF c9 h
  refine zt rfl (by first | rfl | simp only [c9, zqa, zqb, zqc, zqd]) ?_
  refine zs ?_
  refine zg hT hA { tk := [10], nl := [10] } (by (repeat (cbv; simp only [c9])); first | done | cbv) (lb rfl) ?_
  refine nT ?_
  refine zr ?_
  refine rB ?_
  refine rT ?_
  cases soI h
  exact ⟨rfl, rfl, rfl, lb rfl, _, rfl⟩

theorem C123w {A : Ar} (hA : A = Ar.std) {x1 : Int} {x2 : Int} {x3 : List D} {x4 : List D} {x5 : Int} {x6 : List D} {v63 : List D} {v64 : Int} (h : C123 A x1 x2 x3 x4 x5 x6 = some (v63, v64)) : ACall Try.prog 123 [(.d (.agg [(.int .i64 x1), (.int .i64 x2), (.list 1 x3), (.list 1 x4)])), (.d (.int .i64 x5)), (.d (.list 1 x6))] [] (.tuple [(.d (.list 1 v63)), (.d (.int .i64 v64))]) [] := by
 unfold C123 at h
 refine ACall.enter hT (fn := Try.f123) Try.func123 rfl (by decide) (by simp [Try.f123]) rfl rfl rfl rfl (lb rfl) ?_
 refine zs ?_
 refine zg hT hA {} (by cbv) (lb rfl) ?_
 refine nT ?_
 refine zs ?_
 refine zg hT hA {} (by cbv) (lb rfl) ?_
 refine nT ?_
 refine zs ?_
 refine zs ?_
 refine zg hT hA {} (by cbv) (lb rfl) ?_
 refine nT ?_
 refine zb ?_
 obtain ⟨xK62, hxK62, K62, hK62, hkK62⟩ := bindK h
 refine AWp.cutX 0 [1, 8] [] 0 (lb rfl) (fun τ => ∃ v60 v61, K62 (v60, v61) = some (v63, v64) ∧ τ = { env := [(1, (.d (.int .i64 v60))), (8, (.own 1 v61))], heap := [], n := 39 }) ?_ ?_
 ·skip
  refine AWp.iter hxK62 [1, 3, 8, 11, 12, 13] [] 0 (lb rfl) (fun (v32, v33, v34) => { env := [(1, (.d (.int .i64 v32))), (3, (.lbox [(.d (.int .i64 x1)), (.d (.int .i64 x2)), (.d (.list 1 x3)), (.d (.list 1 x4))])), (8, (.own 1 v33)), (11, (.d (.list 1 x6))), (12, (.d (.int .i64 (A.len x6)))), (13, (.d (.int .i64 v34)))], heap := [], n := 39 }) ⟨rfl, (by cbv)⟩ ?_
  rintro ⟨v32, v33, v34⟩ eK62 hsK62
  dsimp only [C123L0] at hsK62
  refine zs ?_
  refine zg hT hA {} (by cbv) (lb rfl) ?_
  refine nT ?_
  refine zs ?_
  rcases tf (A.zlt v34 (A.len x6)) with c35 | c35
  ·replace hsK62 := cT c35 hsK62
   refine zt rfl (by first | rfl | simp only [c35, zqa, zqb, zqc, zqd]) ?_
   refine zk ?_
   refine nT ?_
   refine zs ?_
   refine zb ?_
   refine zs ?_
   obtain ⟨a36, e37, hsK62⟩ := bindS hsK62
   obtain ⟨f38, f39⟩ := gtI e37
   refine zg hT hA {} (by (repeat (cbv; simp only [c35, f38, f39])); first | done | cbv) (lb rfl) ?_
   refine nT ?_
   refine zs ?_
   obtain ⟨a40, e41, hsK62⟩ := bindS hsK62
   obtain ⟨f42, f43⟩ := gtI e41
   obtain ⟨a44, e45, hsK62⟩ := bindS hsK62
   obtain ⟨f46, f47⟩ := gtI e45
   obtain ⟨l48, e49, hsK62⟩ := bindS hsK62
   obtain ⟨f50, f51⟩ := apI e49
   refine zg hT hA { tk := [8, 27] } (by (repeat (cbv; simp only [c35, f42, f43, f46, f47, f50, f51])); first | done | cbv) (lb rfl) ?_
   refine nT ?_
   obtain ⟨a52, e53, hsK62⟩ := bindS hsK62
   obtain ⟨f54, f55⟩ := gtI e53
   obtain ⟨a56, e57, hsK62⟩ := bindS hsK62
   obtain ⟨f58, f59⟩ := gtI e57
   refine zg hT hA {} (by (repeat (cbv; simp only [c35, f54, f55, f58, f59])); first | done | cbv) (lb rfl) ?_
   refine nB ?_
   refine nT ?_
   refine zg hT hA {} (by (repeat (cbv; simp only [c35])); first | done | cbv) (lb rfl) ?_
   exact nT ⟨_, (soI hsK62).symm, rfl, (by first | (cbv; done) | ((repeat (cbv; simp only [c35])); first | done | cbv))⟩
  ·replace hsK62 := cF c35 hsK62
   refine zf rfl (by first | rfl | simp only [c35, zqa, zqb, zqc, zqd]) ?_
   refine AWp.exit ?_
   refine xT ?_
   refine xT ?_
   refine exL hsK62 fun hx => ?_
   subst hx
   exact oxI ⟨rfl, _, _, hkK62, (by first | (cbv; done) | ((repeat (cbv; simp only [c35])); first | done | cbv))⟩
 ·rintro _ ⟨v60, v61, hkK62, rfl⟩
  have h := (hK62 _ hkK62)
  refine xB ?_
  refine nT ?_
  refine zs ?_
  refine zg hT hA {} (by cbv) (lb rfl) ?_
  refine nT ?_
  refine zr ?_
  cases soI h
  exact ⟨rfl, rfl, rfl, lb rfl, _, rfl⟩

theorem C72w {A : Ar} (hA : A = Ar.std) {x1 : Int} {x2 : Int} {x3 : List D} {x4 : List D} {x5 : Int} {x6 : List D} {v17 : List D} {v18 : Int} {v19 : Int} (h : C72 A x1 x2 x3 x4 x5 x6 = some (v17, v18, v19)) : ACall Try.prog 72 [(.d (.agg [(.int .i64 x1), (.int .i64 x2), (.list 1 x3), (.list 1 x4)])), (.d (.int .i64 x5)), (.d (.list 1 x6))] [] (.tuple [(.d (.list 1 v17)), (.d (.int .i64 v18)), (.d (.int .i64 v19))]) [] := by
 unfold C72 at h
 refine ACall.enter hT (fn := Try.f72) Try.func72 rfl (by decide) (by simp [Try.f72]) rfl rfl rfl rfl (lb rfl) ?_
 refine zs ?_
 refine zg hT hA {} (by cbv) (lb rfl) ?_
 refine nT ?_
 refine AWp.freezeBox 4 [(.int .i64 x5)] rfl rfl ?_
 refine AWp.freezeBox 5 [(.list 1 x6)] rfl rfl ?_
 refine zs ?_
 refine zn ?_
 obtain ⟨⟨r8, r9, r10, r11, r12⟩, e7, h⟩ := bindS h
 refine AOps.cc hT hA { tk := [15] } (by cbv) (lb rfl) (C119w hA e7) rfl (.inl rfl) rfl rfl rfl (lb rfl) rfl rfl ?_
 refine AOps.cd hT hA { tk := [15] } (by cbv) (lb rfl) ?_
 refine nT ?_
 refine zs ?_
 refine zs ?_
 refine zg hT hA {} (by cbv) (lb rfl) ?_
 refine nT ?_
 rcases tf (A.zeq r12 0) with c13 | c13
 ·replace h := cT c13 h
  refine zf rfl (by first | rfl | simp only [c13, zqa, zqb, zqc, zqd]) ?_
  refine zk ?_
  refine nT ?_
  refine zs ?_
  refine zn ?_
  obtain ⟨⟨r15, r16⟩, e14, h⟩ := bindS h
  refine AOps.cc hT hA {} (by (repeat (cbv; simp only [c13])); first | done | cbv) (lb rfl) (C123w hA e14) rfl (.inl rfl) rfl rfl rfl (lb rfl) rfl rfl ?_
  refine AOps.cd hT hA {} (by (repeat (cbv; simp only [c13])); first | done | cbv) (lb rfl) ?_
  refine nT ?_
  refine zs ?_
  refine zg hT hA {} (by (repeat (cbv; simp only [c13])); first | done | cbv) (lb rfl) ?_
  refine nT ?_
  refine zr ?_
  cases soI h
  exact ⟨rfl, rfl, rfl, lb rfl, _, rfl⟩
 ·replace h := cF c13 h
  refine zt rfl (by first | rfl | simp only [c13, zqa, zqb, zqc, zqd]) ?_
  refine zs ?_
  refine zg hT hA {} (by (repeat (cbv; simp only [c13])); first | done | cbv) (lb rfl) ?_
  refine nT ?_
  refine zr ?_
  refine rT ?_
  cases soI h
  exact ⟨rfl, rfl, rfl, lb rfl, _, rfl⟩

theorem C74w {A : Ar} (hA : A = Ar.std) {x1 : Int} {x2 : Int} {x3 : Int} {x4 : Int} {x5 : Int} {x6 : Int} {x7 : Int} {v8 : Bool} (h : C74 A x1 x2 x3 x4 x5 x6 x7 = some v8) : ACall Try.prog 74 [(.d (.agg [(.int .i64 x1), (.int .i64 x2), (.int .i64 x3), (.int .i64 x4), (.int .i64 x5), (.int .i64 x6)])), (.d (.int .i64 x7))] [] (.d (.bool v8)) [] := by
 unfold C74 at h
 refine ACall.enter hT (fn := Try.f74) Try.func74 rfl (by decide) (by simp [Try.f74]) rfl rfl rfl rfl (lb rfl) ?_
 refine zs ?_
 refine zg hT hA {} (by cbv) (lb rfl) ?_
 refine nT ?_
 refine zs ?_
 refine zg hT hA { tk := [8] } (by cbv) (lb rfl) ?_
 refine nT ?_
 refine zr ?_
 cases soI h
 exact ⟨rfl, rfl, rfl, lb rfl, _, rfl⟩

theorem C73w {A : Ar} (hA : A = Ar.std) {x1 : List D} {x2 : List D} {x3 : List D} {x4 : Int} {x5 : Int} {x6 : Int} {x7 : Int} {x8 : Int} {x9 : Int} {x10 : Int} {x11 : Int} {x12 : Int} {x13 : Int} {x14 : Int} {x15 : Int} {x16 : Int} {x17 : Int} {x18 : Int} {x19 : Int} {x20 : Int} {x21 : Int} {x22 : List D} {x23 : List D} {v67 : Bool} (h : C73 A x1 x2 x3 x4 x5 x6 x7 x8 x9 x10 x11 x12 x13 x14 x15 x16 x17 x18 x19 x20 x21 x22 x23 = some v67) : ACall Try.prog 73 [(.gref 1 6), (.d (.list 1 x1)), (.func 74 [] [])] [(.cells [(.d (.list 1 x2)), (.d (.list 1 x3)), (.d (.int .i64 x4)), (.d (.int .i64 x5)), (.d (.int .i64 x6)), (.d (.int .i64 x7)), (.d (.int .i64 x8)), (.d (.int .i64 x9)), (.d (.int .i64 x10)), (.d (.int .i64 x11)), (.d (.int .i64 x12)), (.d (.int .i64 x13)), (.d (.int .i64 x14)), (.d (.int .i64 x15)), (.d (.int .i64 x16)), (.d (.int .i64 x17)), (.d (.int .i64 x18)), (.d (.int .i64 x19)), (.d (.int .i64 x20)), (.d (.int .i64 x21)), (.gref 1 6), (.gref 4 1)]), (.gro 6 x22), .dead, .dead, (.gro 1 x23), .dead, .dead] (.d (.bool v67)) [(.cells [(.d (.list 1 x2)), (.d (.list 1 x3)), (.d (.int .i64 x4)), (.d (.int .i64 x5)), (.d (.int .i64 x6)), (.d (.int .i64 x7)), (.d (.int .i64 x8)), (.d (.int .i64 x9)), (.d (.int .i64 x10)), (.d (.int .i64 x11)), (.d (.int .i64 x12)), (.d (.int .i64 x13)), (.d (.int .i64 x14)), (.d (.int .i64 x15)), (.d (.int .i64 x16)), (.d (.int .i64 x17)), (.d (.int .i64 x18)), (.d (.int .i64 x19)), (.d (.int .i64 x20)), (.d (.int .i64 x21)), (.gref 1 6), (.gref 4 1)]), (.gro 6 x22), .dead, .dead, (.gro 1 x23), .dead, .dead] := by
 unfold C73 at h
 refine ACall.enter hT (fn := Try.f73) Try.func73 rfl (by decide) (by simp [Try.f73]) rfl rfl rfl rfl (lb rfl) ?_
 refine zs ?_
 refine zg hT hA {} (by cbv) (lb rfl) ?_
 refine nT ?_
 refine zs ?_
 refine zs ?_
 refine zg hT hA {} (by cbv) (lb rfl) ?_
 refine nT ?_
 rcases tf (A.zeq (A.len x22) (A.len x1)) with c24 | c24
 ·replace h := cT c24 h
  refine zf rfl (by first | rfl | simp only [c24, zqa, zqb, zqc, zqd]) ?_
  refine zk ?_
  refine nT ?_
  refine zs ?_
  refine zs ?_
  refine zg hT hA {} (by (repeat (cbv; simp only [c24])); first | done | cbv) (lb rfl) ?_
  refine nT ?_
  refine zb ?_
  obtain ⟨xK66, hxK66, K66, hK66, hkK66⟩ := bindK h
  refine AWp.cutXW 0 (fun τ => K66 (.inl ()) = some v67 ∧ τ = { env := [], heap := [(.cells [(.d (.list 1 x2)), (.d (.list 1 x3)), (.d (.int .i64 x4)), (.d (.int .i64 x5)), (.d (.int .i64 x6)), (.d (.int .i64 x7)), (.d (.int .i64 x8)), (.d (.int .i64 x9)), (.d (.int .i64 x10)), (.d (.int .i64 x11)), (.d (.int .i64 x12)), (.d (.int .i64 x13)), (.d (.int .i64 x14)), (.d (.int .i64 x15)), (.d (.int .i64 x16)), (.d (.int .i64 x17)), (.d (.int .i64 x18)), (.d (.int .i64 x19)), (.d (.int .i64 x20)), (.d (.int .i64 x21)), (.gref 1 6), (.gref 4 1)]), (.gro 6 x22), .dead, .dead, (.gro 1 x23), .dead, .dead], n := 32 }) ?_ ?_
  ·skip
   refine AWp.iterW hxK66 (fun v45 => { env := [(1, (.d (.list 1 x1))), (2, (.func 74 [] [])), (15, (.gref 1 6)), (16, (.d (.int .i64 (A.len x22)))), (17, (.d (.int .i64 v45)))], heap := [(.cells [(.d (.list 1 x2)), (.d (.list 1 x3)), (.d (.int .i64 x4)), (.d (.int .i64 x5)), (.d (.int .i64 x6)), (.d (.int .i64 x7)), (.d (.int .i64 x8)), (.d (.int .i64 x9)), (.d (.int .i64 x10)), (.d (.int .i64 x11)), (.d (.int .i64 x12)), (.d (.int .i64 x13)), (.d (.int .i64 x14)), (.d (.int .i64 x15)), (.d (.int .i64 x16)), (.d (.int .i64 x17)), (.d (.int .i64 x18)), (.d (.int .i64 x19)), (.d (.int .i64 x20)), (.d (.int .i64 x21)), (.gref 1 6), (.gref 4 1)]), (.gro 6 x22), .dead, .dead, (.gro 1 x23), .dead, .dead], n := 32 }) ⟨_, Wk.ren [some 0, some 1, some 2, some 3, some 4, some 5, some 6] [1, 2, 15, 16, 17] rfl (by first | (cbv; done) | ((repeat (cbv; simp only [c24])); first | done | cbv)), rfl⟩ ?_
   rintro v45 eK66 hsK66
   dsimp only [C73L0] at hsK66
   refine zs ?_
   refine zg hT hA {} (by cbv) (lb rfl) ?_
   refine nT ?_
   refine zs ?_
   rcases tf (A.zlt v45 (A.len x22)) with c46 | c46
   ·replace hsK66 := cT c46 hsK66
    refine zt rfl (by first | rfl | simp only [c46, zqa, zqb, zqc, zqd]) ?_
    refine zk ?_
    refine nT ?_
    refine zs ?_
    refine zb ?_
    refine zs ?_
    obtain ⟨_, e47, hsK66⟩ := bindS hsK66
    have f49 := ckI e47
    obtain ⟨_, e48, hsK66⟩ := bindS hsK66
    have f50 := ckI e48
    obtain ⟨⟨a51, a52, a53, a54, a55, a56⟩, e57, hsK66⟩ := bindS hsK66
    have f58 := gcI e57
    refine zg hT hA { tk := [21] } (by (repeat (cbv; simp only [c46, f49, f50, f58])); first | done | cbv) (lb rfl) ?_
    refine nT ?_
    refine zs ?_
    obtain ⟨a59, e60, hsK66⟩ := bindS hsK66
    obtain ⟨f61, f62⟩ := gtI e60
    refine zg hT hA {} (by (repeat (cbv; simp only [c46, f61, f62])); first | done | cbv) (lb rfl) ?_
    refine nT ?_
    refine zs ?_
    refine zn ?_
    obtain ⟨r64, e63, hsK66⟩ := bindS hsK66
    refine AOps.cc hT hA {} (by (repeat (cbv; simp only [c46])); first | done | cbv) (lb rfl) (C74w hA e63) rfl (.inr rfl) rfl rfl rfl (lb rfl) rfl rfl ?_
    refine AOps.cd hT hA {} (by (repeat (cbv; simp only [c46])); first | done | cbv) (lb rfl) ?_
    refine nT ?_
    rcases tf r64 with c65 | c65
    ·replace hsK66 := cT c65 hsK66
     refine zf rfl (by first | rfl | simp only [c46, c65, zqa, zqb, zqc, zqd]) ?_
     refine zk ?_
     refine nB ?_
     refine nT ?_
     refine zg hT hA {} (by (repeat (cbv; simp only [c46, c65])); first | done | cbv) (lb rfl) ?_
     exact nT ⟨_, (soI hsK66).symm, _, (Wk.ren [some 0, some 1, some 2, some 3, some 4, some 5, some 6] [1, 2, 15, 16, 17] rfl (by first | (cbv; done) | ((repeat (cbv; simp only [c46, c65])); first | done | cbv))), rfl⟩
    ·replace hsK66 := cF c65 hsK66
     refine zt rfl (by first | rfl | simp only [c46, c65, zqa, zqb, zqc, zqd]) ?_
     refine zs ?_
     refine zg hT hA {} (by (repeat (cbv; simp only [c46, c65])); first | done | cbv) (lb rfl) ?_
     refine nT ?_
     refine zr ?_
     refine rB ?_
     refine rT ?_
     refine rT ?_
     refine exL hsK66 fun hx => ?_
     subst hx
     refine oxWR ?_
     replace hkK66 := (eR (hK66 _ hkK66))
     refine rB ?_
     refine rT ?_
     cases soI hkK66
     exact ⟨rfl, rfl, rfl, lb rfl, _, rfl⟩
   ·replace hsK66 := cF c46 hsK66
    refine zf rfl (by first | rfl | simp only [c46, zqa, zqb, zqc, zqd]) ?_
    refine AWp.exit ?_
    refine xT ?_
    refine xT ?_
    refine exL hsK66 fun hx => ?_
    subst hx
    exact oxWI ⟨_, (Wk.ren [some 0, some 1, some 2, some 3, some 4, some 5, some 6] [] rfl (by first | (cbv; done) | ((repeat (cbv; simp only [c46])); first | done | cbv))), hkK66, rfl⟩
  ·rintro _ ⟨hkK66, rfl⟩
   have h := (eL (hK66 _ hkK66))
   refine xB ?_
   refine nT ?_
   refine zs ?_
   refine zg hT hA {} (by cbv) (lb rfl) ?_
   refine nT ?_
   refine zr ?_
   cases soI h
   exact ⟨rfl, rfl, rfl, lb rfl, _, rfl⟩
 ·replace h := cF c24 h
  refine zt rfl (by first | rfl | simp only [c24, zqa, zqb, zqc, zqd]) ?_
  refine zs ?_
  refine zg hT hA {} (by (repeat (cbv; simp only [c24])); first | done | cbv) (lb rfl) ?_
  refine nT ?_
  refine zr ?_
  refine rT ?_
  cases soI h
  exact ⟨rfl, rfl, rfl, lb rfl, _, rfl⟩

theorem C27w {A : Ar} (hA : A = Ar.std) {x1 : Int} {x2 : Int} {x3 : List D} {x4 : List D} {x5 : List D} {x6 : List D} {v127 : Bool} {v128 : Int} (h : C27 A x1 x2 x3 x4 x5 x6 = some (v127, v128)) : ACall Try.prog 27 [(.d (.agg [(.int .i64 x1), (.int .i64 x2), (.list 1 x3), (.list 1 x4)])), (.d (.list 1 x5)), (.d (.list 1 x6))] [] (.tuple [(.d (.bool v127)), (.d (.int .i64 v128))]) [] := by
 unfold C27 at h
 refine ACall.enter hT (fn := Try.f27) Try.func27 rfl (by decide) (by simp [Try.f27]) rfl rfl rfl rfl (lb rfl) ?_
 refine zs ?_
 refine zg hT hA {} (by cbv) (lb rfl) ?_
 refine nT ?_
 refine zs ?_
 refine zg hT hA {} (by cbv) (lb rfl) ?_
 refine nT ?_
 refine zs ?_
 refine zs ?_
 refine zn ?_
 obtain ⟨r8, e7, h⟩ := bindS h
 refine AOps.cc hT hA {} (by cbv) (lb rfl) (C68w hA e7) rfl (.inl rfl) rfl rfl rfl (lb rfl) rfl rfl ?_
 refine AOps.cd hT hA {} (by cbv) (lb rfl) ?_
 refine nT ?_
 refine zb ?_
 refine zs ?_
 refine zg hT hA {} (by cbv) (lb rfl) ?_
 refine nT ?_
 rcases tf (A.zeq r8 81) with c9 | c9
 ·replace h := cT c9 h
  refine zt rfl (by first | rfl | simp only [c9, zqa, zqb, zqc, zqd]) ?_
  refine zs ?_
  refine zg hT hA {} (by (repeat (cbv; simp only [c9])); first | done | cbv) (lb rfl) ?_
  refine nT ?_
  refine zr ?_
  refine rB ?_
  refine rT ?_
  cases soI h
  exact ⟨rfl, rfl, rfl, lb rfl, _, rfl⟩
 ·replace h := cF c9 h
  refine zf rfl (by first | rfl | simp only [c9, zqa, zqb, zqc, zqd]) ?_
  refine zs ?_
  refine zg hT hA {} (by (repeat (cbv; simp only [c9])); first | done | cbv) (lb rfl) ?_
  refine nT ?_
  rcases tf (A.zeq r8 0) with c10 | c10
  ·replace h := cT c10 h
   refine zf rfl (by first | rfl | simp only [c9, c10, zqa, zqb, zqc, zqd]) ?_
   refine zk ?_
   refine nB ?_
   refine nT ?_
   refine zs ?_
   refine zn ?_
   obtain ⟨⟨r12, r13⟩, e11, h⟩ := bindS h
   refine AOps.cc hT hA { tk := [29], esc := [10] } (by (repeat (cbv; simp only [c9, c10])); first | done | cbv) (lb rfl) (C69w hA e11) rfl (.inl rfl) rfl rfl rfl (lb rfl) rfl rfl ?_
   refine AOps.cd hT hA { tk := [29], esc := [10] } (by (repeat (cbv; simp only [c9, c10])); first | done | cbv) (lb rfl) ?_
   refine nT ?_
   refine zs ?_
   refine zb ?_
   refine AWp.weak (Wk.ren [some 6, some 0, some 1, some 2, some 3, some 4, some 5] [2, 3, 10] rfl rfl) ?_
   obtain ⟨xK114, hxK114, K114, hK114, hkK114⟩ := bindK h
   refine AWp.cutXW 1 (fun τ => ∃ v92 v93 v94 v95 v96 v97 v98 v99 v100 v101 v102 v103 v104 v105 v106 v107 v108 v109 v110 v111 v112 v113, K114 (v92, v93, v94, v95, v96, v97, v98, v99, v100, v101, v102, v103, v104, v105, v106, v107, v108, v109, v110, v111, v112, v113) = some (v127, v128) ∧ τ = { env := [(2, (.d (.list 1 x6))), (3, (.lbox [(.d (.int .i64 x1)), (.d (.int .i64 x2)), (.d (.list 1 x3)), (.d (.list 1 x4))])), (10, (.ptr 0 0))], heap := [(.cells [(.d (.list 1 v92)), (.d (.list 1 v93)), (.d (.int .i64 v94)), (.d (.int .i64 v95)), (.d (.int .i64 v96)), (.d (.int .i64 v97)), (.d (.int .i64 v98)), (.d (.int .i64 v99)), (.d (.int .i64 v100)), (.d (.int .i64 v101)), (.d (.int .i64 v102)), (.d (.int .i64 v103)), (.d (.int .i64 v104)), (.d (.int .i64 v105)), (.d (.int .i64 v106)), (.d (.int .i64 v107)), (.d (.int .i64 v108)), (.d (.int .i64 v109)), (.d (.int .i64 v110)), (.d (.int .i64 v111)), (.gref 1 6), (.gref 4 1)]), (.gro 6 v112), .dead, .dead, (.gro 1 v113), .dead, .dead], n := 53 }) ?_ ?_
   ·skip
    refine AWp.iterW hxK114 (fun (v41, v42, v43, v44, v45, v46, v47, v48, v49, v50, v51, v52, v53, v54, v55, v56, v57, v58, v59, v60, v61, v62) => { env := [(2, (.d (.list 1 x6))), (3, (.lbox [(.d (.int .i64 x1)), (.d (.int .i64 x2)), (.d (.list 1 x3)), (.d (.list 1 x4))])), (10, (.ptr 0 0))], heap := [(.cells [(.d (.list 1 v41)), (.d (.list 1 v42)), (.d (.int .i64 v43)), (.d (.int .i64 v44)), (.d (.int .i64 v45)), (.d (.int .i64 v46)), (.d (.int .i64 v47)), (.d (.int .i64 v48)), (.d (.int .i64 v49)), (.d (.int .i64 v50)), (.d (.int .i64 v51)), (.d (.int .i64 v52)), (.d (.int .i64 v53)), (.d (.int .i64 v54)), (.d (.int .i64 v55)), (.d (.int .i64 v56)), (.d (.int .i64 v57)), (.d (.int .i64 v58)), (.d (.int .i64 v59)), (.d (.int .i64 v60)), (.gref 1 6), (.gref 4 1)]), (.gro 6 v61), .dead, .dead, (.gro 1 v62), .dead, .dead], n := 53 }) ⟨_, Wk.ren [some 0, some 1, some 2, some 3, some 4, some 5, some 6] [2, 3, 10] rfl (by first | (cbv; done) | ((repeat (cbv; simp only [c9, c10])); first | done | cbv)), rfl⟩ ?_
    rintro ⟨v41, v42, v43, v44, v45, v46, v47, v48, v49, v50, v51, v52, v53, v54, v55, v56, v57, v58, v59, v60, v61, v62⟩ eK114 hsK114
    dsimp only [C27L0] at hsK114
    refine zs ?_
    refine zs ?_
    obtain ⟨v66, hvK67, hsK114⟩ := bindS hsK114
    refine AWp.cutW (fun τ => τ = { env := [(2, (.d (.list 1 x6))), (3, (.lbox [(.d (.int .i64 x1)), (.d (.int .i64 x2)), (.d (.list 1 x3)), (.d (.list 1 x4))])), (10, (.ptr 0 0)), (35, (.d (.bool v66)))], heap := [(.cells [(.d (.list 1 v41)), (.d (.list 1 v42)), (.d (.int .i64 v43)), (.d (.int .i64 v44)), (.d (.int .i64 v45)), (.d (.int .i64 v46)), (.d (.int .i64 v47)), (.d (.int .i64 v48)), (.d (.int .i64 v49)), (.d (.int .i64 v50)), (.d (.int .i64 v51)), (.d (.int .i64 v52)), (.d (.int .i64 v53)), (.d (.int .i64 v54)), (.d (.int .i64 v55)), (.d (.int .i64 v56)), (.d (.int .i64 v57)), (.d (.int .i64 v58)), (.d (.int .i64 v59)), (.d (.int .i64 v60)), (.gref 1 6), (.gref 4 1)]), (.gro 6 v61), .dead, .dead, (.gro 1 v62), .dead, .dead], n := 53 }) ?_ ?_
    ·skip
     refine zn ?_
     rcases tf (A.zlt v60 12) with c63 | c63
     ·replace hvK67 := cT c63 hvK67
      obtain ⟨r65, e64, hvK67⟩ := bindS hvK67
      refine AOps.cc hT hA {} (by (repeat (cbv; simp only [c63])); first | done | cbv) (lb rfl) (C70w hA e64) rfl (.inl rfl) rfl rfl rfl (lb rfl) rfl rfl ?_
      refine AOps.cd hT hA {} (by (repeat (cbv; simp only [c63])); first | done | cbv) (lb rfl) ?_
      cases soI hvK67
      exact oWi ⟨_, (Wk.ren [some 0, some 1, some 2, some 3, some 4, some 5, some 6] [2, 3, 10, 35] rfl (by first | (cbv; done) | ((repeat (cbv; simp only [c63])); first | done | cbv))), rfl⟩
     ·replace hvK67 := cF c63 hvK67
      refine AOps.cd hT hA {} (by (repeat (cbv; simp only [c63])); first | done | cbv) (lb rfl) ?_
      cases soI hvK67
      exact oWi ⟨_, (Wk.ren [some 0, some 1, some 2, some 3, some 4, some 5, some 6] [2, 3, 10, 35] rfl (by first | (cbv; done) | ((repeat (cbv; simp only [c63])); first | done | cbv))), rfl⟩
    ·rintro _ rfl
     refine nT ?_
     rcases tf v66 with c68 | c68
     ·replace hsK114 := cT c68 hsK114
      refine zt rfl (by first | rfl | simp only [c68, zqa, zqb, zqc, zqd]) ?_
      refine zk ?_
      refine nT ?_
      refine zb ?_
      refine zn ?_
      obtain ⟨⟨r70, r71, r72, r73, r74, r75, r76, r77, r78, r79, r80, r81, r82, r83, r84, r85, r86, r87, r88, r89, r90, r91⟩, e69, hsK114⟩ := bindS hsK114
      refine AOps.cc hT hA {} (by (repeat (cbv; simp only [c68])); first | done | cbv) (lb rfl) (C71w hA e69) rfl (.inl rfl) rfl rfl rfl (lb rfl) rfl rfl ?_
      refine AOps.cd hT hA {} (by (repeat (cbv; simp only [c68])); first | done | cbv) (lb rfl) ?_
      refine nB ?_
      exact nT ⟨_, (soI hsK114).symm, _, (Wk.ren [some 0, some 7, some 8, some 9, some 10, some 11, some 12] [2, 3, 10] rfl (by first | (cbv; done) | ((repeat (cbv; simp only [c68])); first | done | cbv))), rfl⟩
     ·replace hsK114 := cF c68 hsK114
      refine zf rfl (by first | rfl | simp only [c68, zqa, zqb, zqc, zqd]) ?_
      refine AWp.exit ?_
      refine xT ?_
      refine xT ?_
      refine exL hsK114 fun hx => ?_
      subst hx
      exact oxWI ⟨_, (Wk.ren [some 0, some 1, some 2, some 3, some 4, some 5, some 6] [2, 3, 10] rfl (by first | (cbv; done) | ((repeat (cbv; simp only [c68])); first | done | cbv))), _, _, _, _, _, _, _, _, _, _, _, _, _, _, _, _, _, _, _, _, _, _, hkK114, rfl⟩
   ·rintro _ ⟨v92, v93, v94, v95, v96, v97, v98, v99, v100, v101, v102, v103, v104, v105, v106, v107, v108, v109, v110, v111, v112, v113, hkK114, rfl⟩
    have h := (hK114 _ hkK114)
    refine xB ?_
    refine nT ?_
    refine zs ?_
    refine zs ?_
    refine zn ?_
    obtain ⟨r116, e115, h⟩ := bindS h
    refine AOps.cc hT hA {} (by cbv) (lb rfl) (C70w hA e115) rfl (.inl rfl) rfl rfl rfl (lb rfl) rfl rfl ?_
    refine AOps.cd hT hA {} (by cbv) (lb rfl) ?_
    refine nT ?_
    rcases tf r116 with c117 | c117
    ·replace h := cT c117 h
     refine zt rfl (by first | rfl | simp only [c117, zqa, zqb, zqc, zqd]) ?_
     refine zs ?_
     refine zg hT hA {} (by (repeat (cbv; simp only [c117])); first | done | cbv) (lb rfl) ?_
     refine nT ?_
     refine AWp.weak (Wk.ren [] [6, 7] rfl rfl) ?_
     refine zr ?_
     refine rT ?_
     cases soI h
     exact ⟨rfl, rfl, rfl, lb rfl, _, rfl⟩
    ·replace h := cF c117 h
     refine zf rfl (by first | rfl | simp only [c117, zqa, zqb, zqc, zqd]) ?_
     refine zk ?_
     refine nT ?_
     refine zs ?_
     refine zn ?_
     obtain ⟨⟨r119, r120, r121⟩, e118, h⟩ := bindS h
     refine AOps.cc hT hA {} (by (repeat (cbv; simp only [c117])); first | done | cbv) (lb rfl) (C72w hA e118) rfl (.inr rfl) rfl rfl rfl (lb rfl) rfl rfl ?_
     refine AOps.cd hT hA {} (by (repeat (cbv; simp only [c117])); first | done | cbv) (lb rfl) ?_
     refine nT ?_
     refine zs ?_
     obtain ⟨v125, hvK126, h⟩ := bindS h
     refine AWp.cutW (fun τ => τ = { env := [(6, (.d (.bool v125))), (7, (.d (.int .i64 0)))], heap := [], n := 53 }) ?_ ?_
     ·skip
      refine zn ?_
      rcases tf (A.zeq r121 0) with c122 | c122
      ·replace hvK126 := cT c122 hvK126
       obtain ⟨r124, e123, hvK126⟩ := bindS hvK126
       refine AOps.cc hT hA {} (by (repeat (cbv; simp only [c117, c122])); first | done | cbv) (lb rfl) (C73w hA e123) rfl (.inl rfl) rfl rfl rfl (lb rfl) rfl rfl ?_
       refine AOps.cd hT hA {} (by (repeat (cbv; simp only [c117, c122])); first | done | cbv) (lb rfl) ?_
       cases soI hvK126
       exact oWi ⟨_, (Wk.ren [] [6, 7] rfl (by first | (cbv; done) | ((repeat (cbv; simp only [c117, c122])); first | done | cbv))), rfl⟩
      ·replace hvK126 := cF c122 hvK126
       refine AOps.cd hT hA {} (by (repeat (cbv; simp only [c117, c122])); first | done | cbv) (lb rfl) ?_
       cases soI hvK126
       exact oWi ⟨_, (Wk.ren [] [6, 7] rfl (by first | (cbv; done) | ((repeat (cbv; simp only [c117, c122])); first | done | cbv))), rfl⟩
     ·rintro _ rfl
      refine nT ?_
      refine zr ?_
      cases soI h
      exact ⟨rfl, rfl, rfl, lb rfl, _, rfl⟩
  ·replace h := cF c10 h
   refine zt rfl (by first | rfl | simp only [c9, c10, zqa, zqb, zqc, zqd]) ?_
   refine zs ?_
   refine zg hT hA {} (by (repeat (cbv; simp only [c9, c10])); first | done | cbv) (lb rfl) ?_
   refine nT ?_
   refine zr ?_
   refine rB ?_
   refine rT ?_
   cases soI h
   exact ⟨rfl, rfl, rfl, lb rfl, _, rfl⟩

theorem C75w {A : Ar} (hA : A = Ar.std) {x1 : Int} {x2 : Int} {x3 : List D} {x4 : List D} {x5 : List D} {v11 : Bool} (h : C75 A x1 x2 x3 x4 x5 = some v11) : ACall Try.prog 75 [(.d (.agg [(.int .i64 x1), (.int .i64 x2), (.list 1 x3), (.list 1 x4)])), (.d (.list 1 x5))] [] (.d (.bool v11)) [] := by
 unfold C75 at h
 refine ACall.enter hT (fn := Try.f75) Try.func75 rfl (by decide) (by simp [Try.f75]) rfl rfl rfl rfl (lb rfl) ?_
 refine zs ?_
 refine zg hT hA {} (by cbv) (lb rfl) ?_
 refine nT ?_
 refine zs ?_
 obtain ⟨v9, hvK10, h⟩ := bindS h
 refine AWp.cutN [4] [] 0 (lb rfl) (fun τ => τ = { env := [(4, (.d (.bool v9)))], heap := [], n := 14 }) ?_ ?_
 ·skip
  refine zn ?_
  obtain ⟨r7, e6, hvK10⟩ := bindS hvK10
  refine AOps.cc hT hA { tk := [13] } (by cbv) (lb rfl) (C58w hA e6) rfl (.inl rfl) rfl rfl rfl (lb rfl) rfl rfl ?_
  rcases tf r7 with c8 | c8
  ·replace hvK10 := cT c8 hvK10
   refine AOps.cd hT hA { tk := [13] } (by (repeat (cbv; simp only [c8])); first | done | cbv) (lb rfl) ?_
   cases soI hvK10
   exact oNi ⟨rfl, (by first | (cbv; done) | ((repeat (cbv; simp only [c8])); first | done | cbv))⟩
  ·replace hvK10 := cF c8 hvK10
   refine AOps.cd hT hA { tk := [13] } (by (repeat (cbv; simp only [c8])); first | done | cbv) (lb rfl) ?_
   cases soI hvK10
   exact oNi ⟨rfl, (by first | (cbv; done) | ((repeat (cbv; simp only [c8])); first | done | cbv))⟩
 ·rintro _ rfl
  refine nT ?_
  refine zr ?_
  cases soI h
  exact ⟨rfl, rfl, rfl, lb rfl, _, rfl⟩

theorem C77w {A : Ar} (hA : A = Ar.std) {x1 : List D} {x2 : List D} {x3 : List D} {x4 : Int} {x5 : Int} {x6 : Int} {x7 : Int} {x8 : List D} {x9 : List D} {x10 : List D} {v21 : Bool} (h : C77 A x1 x2 x3 x4 x5 x6 x7 x8 x9 x10 = some v21) : ACall Try.prog 77 [(.ptr 0 0)] [(.cells [(.d (.list 1 x1)), (.d (.list 1 x2)), (.d (.list 1 x3)), (.gref 1 8), (.d (.int .i64 x4)), (.d (.int .i64 x5)), (.d (.int .i64 x6)), (.d (.int .i64 x7)), (.gref 4 6), (.gref 7 1)]), (.gro 8 x8), .dead, .dead, (.gro 6 x9), .dead, .dead, (.gro 1 x10), .dead, .dead] (.d (.bool v21)) [(.cells [(.d (.list 1 x1)), (.d (.list 1 x2)), (.d (.list 1 x3)), (.gref 1 8), (.d (.int .i64 x4)), (.d (.int .i64 x5)), (.d (.int .i64 x6)), (.d (.int .i64 x7)), (.gref 4 6), (.gref 7 1)]), (.gro 8 x8), .dead, .dead, (.gro 6 x9), .dead, .dead, (.gro 1 x10), .dead, .dead] := by
 unfold C77 at h
 refine ACall.enter hT (fn := Try.f77) Try.func77 rfl (by decide) (by simp [Try.f77]) rfl rfl rfl rfl (lb rfl) ?_
 refine zs ?_
 refine zg hT hA {} (by cbv) (lb rfl) ?_
 refine nT ?_
 refine zs ?_
 refine zs ?_
 refine zg hT hA {} (by cbv) (lb rfl) ?_
 refine nT ?_
 refine zb ?_
 obtain ⟨xK20, hxK20, K20, hK20, hkK20⟩ := bindK h
 refine AWp.cutXW 0 (fun τ => K20 (.inl ()) = some v21 ∧ τ = { env := [], heap := [(.cells [(.d (.list 1 x1)), (.d (.list 1 x2)), (.d (.list 1 x3)), (.gref 1 8), (.d (.int .i64 x4)), (.d (.int .i64 x5)), (.d (.int .i64 x6)), (.d (.int .i64 x7)), (.gref 4 6), (.gref 7 1)]), (.gro 8 x8), .dead, .dead, (.gro 6 x9), .dead, .dead, (.gro 1 x10), .dead, .dead], n := 16 }) ?_ ?_
 ·skip
  refine AWp.iterW hxK20 (fun v15 => { env := [(0, (.ptr 0 0)), (3, (.d (.int .i64 v15)))], heap := [(.cells [(.d (.list 1 x1)), (.d (.list 1 x2)), (.d (.list 1 x3)), (.gref 1 8), (.d (.int .i64 x4)), (.d (.int .i64 x5)), (.d (.int .i64 x6)), (.d (.int .i64 x7)), (.gref 4 6), (.gref 7 1)]), (.gro 8 x8), .dead, .dead, (.gro 6 x9), .dead, .dead, (.gro 1 x10), .dead, .dead], n := 16 }) ⟨_, Wk.ren [some 0, some 1, some 2, some 3, some 4, some 5, some 6, some 7, some 8, some 9] [0, 3] rfl (by cbv), rfl⟩ ?_
  rintro v15 eK20 hsK20
  dsimp only [C77L0] at hsK20
  refine zs ?_
  refine zs ?_
  refine zg hT hA {} (by cbv) (lb rfl) ?_
  refine nT ?_
  rcases tf (A.zlt v15 (A.len x2)) with c16 | c16
  ·replace hsK20 := cT c16 hsK20
   refine zt rfl (by first | rfl | simp only [c16, zqa, zqb, zqc, zqd]) ?_
   refine zk ?_
   refine nT ?_
   refine zs ?_
   refine zb ?_
   refine zs ?_
   refine zn ?_
   obtain ⟨r18, e17, hsK20⟩ := bindS hsK20
   refine AOps.cc hT hA {} (by (repeat (cbv; simp only [c16])); first | done | cbv) (lb rfl) (C57w hA e17) rfl (.inl rfl) rfl rfl rfl (lb rfl) rfl rfl ?_
   refine AOps.cd hT hA {} (by (repeat (cbv; simp only [c16])); first | done | cbv) (lb rfl) ?_
   refine nT ?_
   rcases tf r18 with c19 | c19
   ·replace hsK20 := cT c19 hsK20
    refine zt rfl (by first | rfl | simp only [c16, c19, zqa, zqb, zqc, zqd]) ?_
    refine zs ?_
    refine zg hT hA {} (by (repeat (cbv; simp only [c16, c19])); first | done | cbv) (lb rfl) ?_
    refine nT ?_
    refine zr ?_
    refine rB ?_
    refine rT ?_
    refine rT ?_
    refine exL hsK20 fun hx => ?_
    subst hx
    refine oxWR ?_
    replace hkK20 := (eR (hK20 _ hkK20))
    refine rB ?_
    refine rT ?_
    cases soI hkK20
    exact ⟨rfl, rfl, rfl, lb rfl, _, rfl⟩
   ·replace hsK20 := cF c19 hsK20
    refine zf rfl (by first | rfl | simp only [c16, c19, zqa, zqb, zqc, zqd]) ?_
    refine zk ?_
    refine nB ?_
    refine nT ?_
    refine zg hT hA {} (by (repeat (cbv; simp only [c16, c19])); first | done | cbv) (lb rfl) ?_
    exact nT ⟨_, (soI hsK20).symm, _, (Wk.ren [some 0, some 1, some 2, some 3, some 4, some 5, some 6, some 7, some 8, some 9] [0, 3] rfl (by first | (cbv; done) | ((repeat (cbv; simp only [c16, c19])); first | done | cbv))), rfl⟩
  ·replace hsK20 := cF c16 hsK20
   refine zf rfl (by first | rfl | simp only [c16, zqa, zqb, zqc, zqd]) ?_
   refine AWp.exit ?_
   refine xT ?_
   refine xT ?_
   refine exL hsK20 fun hx => ?_
   subst hx
   exact oxWI ⟨_, (Wk.ren [some 0, some 1, some 2, some 3, some 4, some 5, some 6, some 7, some 8, some 9] [] rfl (by first | (cbv; done) | ((repeat (cbv; simp only [c16])); first | done | cbv))), hkK20, rfl⟩
 ·rintro _ ⟨hkK20, rfl⟩
  have h := (eL (hK20 _ hkK20))
  refine xB ?_
  refine nT ?_
  refine zs ?_
  refine zg hT hA {} (by cbv) (lb rfl) ?_
  refine nT ?_
  refine zr ?_
  cases soI h
  exact ⟨rfl, rfl, rfl, lb rfl, _, rfl⟩

theorem C28w {A : Ar} (hA : A = Ar.std) {x1 : Int} {x2 : Int} {x3 : List D} {x4 : List D} {x5 : List D} {x6 : List D} {v146 : Bool} {v147 : Int} (h : C28 A x1 x2 x3 x4 x5 x6 = some (v146, v147)) : ACall Try.prog 28 [(.d (.agg [(.int .i64 x1), (.int .i64 x2), (.list 1 x3), (.list 1 x4)])), (.d (.list 1 x5)), (.d (.list 1 x6))] [] (.tuple [(.d (.bool v146)), (.d (.int .i64 v147))]) [] := by
 unfold C28 at h
 refine ACall.enter hT (fn := Try.f28) Try.func28 rfl (by decide) (by simp [Try.f28]) rfl rfl rfl rfl (lb rfl) ?_
 refine zs ?_
 refine zg hT hA {} (by cbv) (lb rfl) ?_
 refine nT ?_
 refine zs ?_
 refine zs ?_
 refine zn ?_
 obtain ⟨r8, e7, h⟩ := bindS h
 refine AOps.cc hT hA {} (by cbv) (lb rfl) (C16w hA e7) rfl (.inl rfl) rfl rfl rfl (lb rfl) rfl rfl ?_
 refine AOps.cd hT hA {} (by cbv) (lb rfl) ?_
 refine nT ?_
 rcases tf r8 with c9 | c9
 ·replace h := cT c9 h
  refine zf rfl (by first | rfl | simp only [c9, zqa, zqb, zqc, zqd]) ?_
  refine zk ?_
  refine nT ?_
  refine zs ?_
  refine zs ?_
  refine zn ?_
  obtain ⟨r11, e10, h⟩ := bindS h
  refine AOps.cc hT hA {} (by (repeat (cbv; simp only [c9])); first | done | cbv) (lb rfl) (C75w hA e10) rfl (.inl rfl) rfl rfl rfl (lb rfl) rfl rfl ?_
  refine AOps.cd hT hA {} (by (repeat (cbv; simp only [c9])); first | done | cbv) (lb rfl) ?_
  refine nT ?_
  rcases tf r11 with c12 | c12
  ·replace h := cT c12 h
   refine zf rfl (by first | rfl | simp only [c9, c12, zqa, zqb, zqc, zqd]) ?_
   refine zk ?_
   refine nT ?_
   refine zs ?_
   refine zs ?_
   refine zn ?_
   obtain ⟨r14, e13, h⟩ := bindS h
   refine AOps.cc hT hA {} (by (repeat (cbv; simp only [c9, c12])); first | done | cbv) (lb rfl) (C43w hA e13) rfl (.inl rfl) rfl rfl rfl (lb rfl) rfl rfl ?_
   refine AOps.cd hT hA {} (by (repeat (cbv; simp only [c9, c12])); first | done | cbv) (lb rfl) ?_
   refine nT ?_
   rcases tf r14 with c15 | c15
   ·replace h := cT c15 h
    refine zf rfl (by first | rfl | simp only [c9, c12, c15, zqa, zqb, zqc, zqd]) ?_
    refine zk ?_
    refine nT ?_
    refine zs ?_
    refine zn ?_
    obtain ⟨⟨r17, r18, r19, r20⟩, e16, h⟩ := bindS h
    refine AOps.cc hT hA {} (by (repeat (cbv; simp only [c9, c12, c15])); first | done | cbv) (lb rfl) (C76w hA e16) rfl (.inl rfl) rfl rfl rfl (lb rfl) rfl rfl ?_
    refine AOps.cd hT hA {} (by (repeat (cbv; simp only [c9, c12, c15])); first | done | cbv) (lb rfl) ?_
    refine nT ?_
    refine zs ?_
    refine zs ?_
    refine zg hT hA {} (by (repeat (cbv; simp only [c9, c12, c15])); first | done | cbv) (lb rfl) ?_
    refine nT ?_
    refine zb ?_
    obtain ⟨xK74, hxK74, K74, hK74, hkK74⟩ := bindK h
    refine AWp.cutXW 0 (fun τ => ∃ v64 v65 v66 v67 v68 v69 v70 v71 v72 v73, K74 (v64, v65, v66, v67, v68, v69, v70, v71, v72, v73) = some (v146, v147) ∧ τ = { env := [(3, (.lbox [(.d (.int .i64 x1)), (.d (.int .i64 x2)), (.d (.list 1 x3)), (.d (.list 1 x4))])), (8, (.ptr 0 0))], heap := [(.cells [(.d (.list 1 v64)), (.d (.list 1 v65)), (.d (.list 1 v66)), (.gref 1 8), (.d (.int .i64 v67)), (.d (.int .i64 v68)), (.d (.int .i64 v69)), (.d (.int .i64 v70)), (.gref 4 6), (.gref 7 1)]), (.gro 8 v71), .dead, .dead, (.gro 6 v72), .dead, .dead, (.gro 1 v73), .dead, .dead], n := 84 }) ?_ ?_
    ·skip
     refine AWp.iterW hxK74 (fun (v36, v37, v38, v39, v40, v41, v42, v43, v44, v45, v46) => { env := [(3, (.lbox [(.d (.int .i64 x1)), (.d (.int .i64 x2)), (.d (.list 1 x3)), (.d (.list 1 x4))])), (8, (.ptr 0 0)), (9, (.d (.int .i64 v36)))], heap := [(.cells [(.d (.list 1 v37)), (.d (.list 1 v38)), (.d (.list 1 v39)), (.gref 1 8), (.d (.int .i64 v40)), (.d (.int .i64 v41)), (.d (.int .i64 v42)), (.d (.int .i64 v43)), (.gref 4 6), (.gref 7 1)]), (.gro 8 v44), .dead, .dead, (.gro 6 v45), .dead, .dead, (.gro 1 v46), .dead, .dead], n := 84 }) ⟨_, Wk.ren [some 0, some 1, some 2, some 3, some 4, some 5, some 6, some 7, some 8, some 9] [3, 8, 9] rfl (by first | (cbv; done) | ((repeat (cbv; simp only [c9, c12, c15])); first | done | cbv)), rfl⟩ ?_
     rintro ⟨v36, v37, v38, v39, v40, v41, v42, v43, v44, v45, v46⟩ eK74 hsK74
     dsimp only [C28L0] at hsK74
     refine zs ?_
     refine zs ?_
     obtain ⟨v50, hvK51, hsK74⟩ := bindS hsK74
     refine AWp.cutW (fun τ => τ = { env := [(3, (.lbox [(.d (.int .i64 x1)), (.d (.int .i64 x2)), (.d (.list 1 x3)), (.d (.list 1 x4))])), (8, (.ptr 0 0)), (9, (.d (.int .i64 v36))), (35, (.d (.bool v50)))], heap := [(.cells [(.d (.list 1 v37)), (.d (.list 1 v38)), (.d (.list 1 v39)), (.gref 1 8), (.d (.int .i64 v40)), (.d (.int .i64 v41)), (.d (.int .i64 v42)), (.d (.int .i64 v43)), (.gref 4 6), (.gref 7 1)]), (.gro 8 v44), .dead, .dead, (.gro 6 v45), .dead, .dead, (.gro 1 v46), .dead, .dead], n := 84 }) ?_ ?_
     ·skip
      refine zn ?_
      rcases tf (A.zlt v36 12) with c47 | c47
      ·replace hvK51 := cT c47 hvK51
       obtain ⟨r49, e48, hvK51⟩ := bindS hvK51
       refine AOps.cc hT hA {} (by (repeat (cbv; simp only [c47])); first | done | cbv) (lb rfl) (C77w hA e48) rfl (.inl rfl) rfl rfl rfl (lb rfl) rfl rfl ?_
       refine AOps.cd hT hA {} (by (repeat (cbv; simp only [c47])); first | done | cbv) (lb rfl) ?_
       cases soI hvK51
       exact oWi ⟨_, (Wk.ren [some 0, some 1, some 2, some 3, some 4, some 5, some 6, some 7, some 8, some 9] [3, 8, 9, 35] rfl (by first | (cbv; done) | ((repeat (cbv; simp only [c47])); first | done | cbv))), rfl⟩
      ·replace hvK51 := cF c47 hvK51
       refine AOps.cd hT hA {} (by (repeat (cbv; simp only [c47])); first | done | cbv) (lb rfl) ?_
       cases soI hvK51
       exact oWi ⟨_, (Wk.ren [some 0, some 1, some 2, some 3, some 4, some 5, some 6, some 7, some 8, some 9] [3, 8, 9, 35] rfl (by first | (cbv; done) | ((repeat (cbv; simp only [c47])); first | done | cbv))), rfl⟩
     ·rintro _ rfl
      refine nT ?_
      rcases tf v50 with c52 | c52
      ·replace hsK74 := cT c52 hsK74
       refine zt rfl (by first | rfl | simp only [c52, zqa, zqb, zqc, zqd]) ?_
       refine zk ?_
       refine nT ?_
       refine zs ?_
       refine zb ?_
       refine zn ?_
       obtain ⟨⟨r54, r55, r56, r57, r58, r59, r60, r61, r62, r63⟩, e53, hsK74⟩ := bindS hsK74
       refine AOps.cc hT hA {} (by (repeat (cbv; simp only [c52])); first | done | cbv) (lb rfl) (C78w hA e53) rfl (.inl rfl) rfl rfl rfl (lb rfl) rfl rfl ?_
       refine AOps.cd hT hA {} (by (repeat (cbv; simp only [c52])); first | done | cbv) (lb rfl) ?_
       refine nB ?_
       refine nT ?_
       refine zg hT hA {} (by (repeat (cbv; simp only [c52])); first | done | cbv) (lb rfl) ?_
       exact nT ⟨_, (soI hsK74).symm, _, (Wk.ren [some 0, some 10, some 11, some 12, some 13, some 14, some 15, some 16, some 17, some 18] [3, 8, 9] rfl (by first | (cbv; done) | ((repeat (cbv; simp only [c52])); first | done | cbv))), rfl⟩
      ·replace hsK74 := cF c52 hsK74
       refine zf rfl (by first | rfl | simp only [c52, zqa, zqb, zqc, zqd]) ?_
       refine AWp.exit ?_
       refine xT ?_
       refine xT ?_
       refine exL hsK74 fun hx => ?_
       subst hx
       exact oxWI ⟨_, (Wk.ren [some 0, some 1, some 2, some 3, some 4, some 5, some 6, some 7, some 8, some 9] [3, 8] rfl (by first | (cbv; done) | ((repeat (cbv; simp only [c52])); first | done | cbv))), _, _, _, _, _, _, _, _, _, _, hkK74, rfl⟩
    ·rintro _ ⟨v64, v65, v66, v67, v68, v69, v70, v71, v72, v73, hkK74, rfl⟩
     have h := (hK74 _ hkK74)
     refine xB ?_
     refine nT ?_
     refine zs ?_
     refine zg hT hA {} (by cbv) (lb rfl) ?_
     refine nT ?_
     refine zs ?_
     refine zs ?_
     refine zg hT hA {} (by cbv) (lb rfl) ?_
     refine nT ?_
     refine zb ?_
     obtain ⟨xK143, hxK143, K143, hK143, hkK143⟩ := bindK h
     refine AWp.cutXW 2 (fun τ => K143 (.inl ()) = some (v146, v147) ∧ τ = { env := [(8, (.ptr 0 0))], heap := [(.cells [(.d (.list 1 v64)), (.d (.list 1 v65)), (.d (.list 1 v66)), (.gref 1 8), (.d (.int .i64 v67)), (.d (.int .i64 v68)), (.d (.int .i64 v69)), (.d (.int .i64 v70)), (.gref 4 6), (.gref 7 1)]), (.gro 8 v71), .dead, .dead, (.gro 6 v72), .dead, .dead, (.gro 1 v73), .dead, .dead], n := 84 }) ?_ ?_
     ·skip
      refine AWp.iterW hxK143 (fun (v108, v109) => { env := [(3, (.lbox [(.d (.int .i64 x1)), (.d (.int .i64 x2)), (.d (.list 1 x3)), (.d (.list 1 x4))])), (8, (.ptr 0 0)), (10, (.d (.int .i64 v108))), (11, (.d (.int .i64 v109)))], heap := [(.cells [(.d (.list 1 v64)), (.d (.list 1 v65)), (.d (.list 1 v66)), (.gref 1 8), (.d (.int .i64 v67)), (.d (.int .i64 v68)), (.d (.int .i64 v69)), (.d (.int .i64 v70)), (.gref 4 6), (.gref 7 1)]), (.gro 8 v71), .dead, .dead, (.gro 6 v72), .dead, .dead, (.gro 1 v73), .dead, .dead], n := 84 }) ⟨_, Wk.ren [some 0, some 1, some 2, some 3, some 4, some 5, some 6, some 7, some 8, some 9] [3, 8, 10, 11] rfl (by cbv), rfl⟩ ?_
      rintro ⟨v108, v109⟩ eK143 hsK143
      dsimp only [C28L1] at hsK143
      refine zs ?_
      refine zs ?_
      refine zg hT hA {} (by cbv) (lb rfl) ?_
      refine nT ?_
      rcases tf (A.zlt v109 (A.len v72)) with c110 | c110
      ·replace hsK143 := cT c110 hsK143
       refine zt rfl (by first | rfl | simp only [c110, zqa, zqb, zqc, zqd]) ?_
       refine zk ?_
       refine nT ?_
       refine zs ?_
       refine zb ?_
       refine zs ?_
       obtain ⟨_, e111, hsK143⟩ := bindS hsK143
       have f113 := ckI e111
       obtain ⟨_, e112, hsK143⟩ := bindS hsK143
       have f114 := ckI e112
       obtain ⟨⟨a115, a116, a117, a118, a119, a120⟩, e121, hsK143⟩ := bindS hsK143
       have f122 := gcI e121
       refine zg hT hA { tk := [55] } (by (repeat (cbv; simp only [c110, f113, f114, f122])); first | done | cbv) (lb rfl) ?_
       refine nT ?_
       refine zs ?_
       refine zs ?_
       obtain ⟨v132, hvK133, hsK143⟩ := bindS hsK143
       refine AWp.cutW (fun τ => τ = { env := [(3, (.lbox [(.d (.int .i64 x1)), (.d (.int .i64 x2)), (.d (.list 1 x3)), (.d (.list 1 x4))])), (8, (.ptr 0 0)), (10, (.d (.int .i64 v108))), (11, (.d (.int .i64 v109))), (12, (.lbox [(.d (.int .i64 a115)), (.d (.int .i64 a116)), (.d (.int .i64 a117)), (.d (.int .i64 a118)), (.d (.int .i64 a119)), (.d (.int .i64 a120))])), (72, (.d (.bool v132)))], heap := [(.cells [(.d (.list 1 v64)), (.d (.list 1 v65)), (.d (.list 1 v66)), (.gref 1 8), (.d (.int .i64 v67)), (.d (.int .i64 v68)), (.d (.int .i64 v69)), (.d (.int .i64 v70)), (.gref 4 6), (.gref 7 1)]), (.gro 8 v71), .dead, .dead, (.gro 6 v72), .dead, .dead, (.gro 1 v73), .dead, .dead], n := 84 }) ?_ ?_
       ·skip
        rcases tf (A.zeq a120 0) with c123 | c123
        ·replace hvK133 := cT c123 hvK133
         refine AWp.rd hT hA {} rfl (by (repeat (cbv; simp only [c110, c123])); first | done | cbv) (by kernel_rfl) (lb rfl) ?_
         cases soI hvK133
         exact oWi ⟨_, (Wk.ren [some 0, some 1, some 2, some 3, some 4, some 5, some 6, some 7, some 8, some 9] [3, 8, 10, 11, 12, 72] rfl (by first | (cbv; done) | ((repeat (cbv; simp only [c110, c123])); first | done | cbv))), rfl⟩
        ·replace hvK133 := cF c123 hvK133
         obtain ⟨a124, e125, hvK133⟩ := bindS hvK133
         obtain ⟨f126, f127⟩ := gtI e125
         obtain ⟨a128, e129, hvK133⟩ := bindS hvK133
         obtain ⟨f130, f131⟩ := gtI e129
         refine AWp.rd hT hA {} rfl (by (repeat (cbv; simp only [c110, c123, f126, f127, f130, f131])); first | done | cbv) (by kernel_rfl) (lb rfl) ?_
         cases soI hvK133
         exact oWi ⟨_, (Wk.ren [some 0, some 1, some 2, some 3, some 4, some 5, some 6, some 7, some 8, some 9] [3, 8, 10, 11, 12, 72] rfl (by first | (cbv; done) | ((repeat (cbv; simp only [c110, c123])); first | done | cbv))), rfl⟩
       ·rintro _ rfl
        refine nT ?_
        rcases tf v132 with c134 | c134
        ·replace hsK143 := cT c134 hsK143
         refine zt rfl (by first | rfl | simp only [c134, zqa, zqb, zqc, zqd]) ?_
         refine zs ?_
         refine zg hT hA {} (by (repeat (cbv; simp only [c134])); first | done | cbv) (lb rfl) ?_
         refine nT ?_
         refine AWp.weak (Wk.ren [] [6, 7] rfl rfl) ?_
         refine zr ?_
         refine rT ?_
         refine rB ?_
         refine rT ?_
         refine rT ?_
         refine exL hsK143 fun hx => ?_
         subst hx
         refine oxWR ?_
         replace hkK143 := (eR (hK143 _ hkK143))
         refine rB ?_
         refine rT ?_
         cases soI hkK143
         exact ⟨rfl, rfl, rfl, lb rfl, _, rfl⟩
        ·replace hsK143 := cF c134 hsK143
         refine zf rfl (by first | rfl | simp only [c134, zqa, zqb, zqc, zqd]) ?_
         refine zk ?_
         refine nT ?_
         obtain ⟨a135, e136, hsK143⟩ := bindS hsK143
         obtain ⟨f137, f138⟩ := gtI e136
         obtain ⟨a139, e140, hsK143⟩ := bindS hsK143
         obtain ⟨f141, f142⟩ := gtI e140
         refine AWp.rd hT hA {} rfl (by (repeat (cbv; simp only [c134, f137, f138, f141, f142])); first | done | cbv) (by kernel_rfl) (lb rfl) ?_
         refine nB ?_
         refine nT ?_
         refine zg hT hA {} (by (repeat (cbv; simp only [c134])); first | done | cbv) (lb rfl) ?_
         exact nT ⟨_, (soI hsK143).symm, _, (Wk.ren [some 0, some 1, some 2, some 3, some 4, some 5, some 6, some 7, some 8, some 9] [3, 8, 10, 11] rfl (by first | (cbv; done) | ((repeat (cbv; simp only [c134])); first | done | cbv))), rfl⟩
      ·replace hsK143 := cF c110 hsK143
       refine zf rfl (by first | rfl | simp only [c110, zqa, zqb, zqc, zqd]) ?_
       refine AWp.exit ?_
       refine xT ?_
       refine xT ?_
       refine exL hsK143 fun hx => ?_
       subst hx
       exact oxWI ⟨_, (Wk.ren [some 0, some 1, some 2, some 3, some 4, some 5, some 6, some 7, some 8, some 9] [8] rfl (by first | (cbv; done) | ((repeat (cbv; simp only [c110])); first | done | cbv))), hkK143, rfl⟩
     ·rintro _ ⟨hkK143, rfl⟩
      have h := (eL (hK143 _ hkK143))
      refine xB ?_
      refine nT ?_
      refine zs ?_
      refine zn ?_
      obtain ⟨r145, e144, h⟩ := bindS h
      refine AOps.cc hT hA {} (by cbv) (lb rfl) (C77w hA e144) rfl (.inl rfl) rfl rfl rfl (lb rfl) rfl rfl ?_
      refine AOps.cd hT hA {} (by cbv) (lb rfl) ?_
      refine nT ?_
      refine AWp.weak (Wk.ren [] [6, 7] rfl rfl) ?_
      refine zr ?_
      cases soI h
      exact ⟨rfl, rfl, rfl, lb rfl, _, rfl⟩
   ·replace h := cF c15 h
    refine zt rfl (by first | rfl | simp only [c9, c12, c15, zqa, zqb, zqc, zqd]) ?_
    refine zs ?_
    refine zg hT hA {} (by (repeat (cbv; simp only [c9, c12, c15])); first | done | cbv) (lb rfl) ?_
    refine nT ?_
    refine zr ?_
    refine rT ?_
    cases soI h
    exact ⟨rfl, rfl, rfl, lb rfl, _, rfl⟩
  ·replace h := cF c12 h
   refine zt rfl (by first | rfl | simp only [c9, c12, zqa, zqb, zqc, zqd]) ?_
   refine zs ?_
   refine zg hT hA {} (by (repeat (cbv; simp only [c9, c12])); first | done | cbv) (lb rfl) ?_
   refine nT ?_
   refine zr ?_
   refine rT ?_
   cases soI h
   exact ⟨rfl, rfl, rfl, lb rfl, _, rfl⟩
 ·replace h := cF c9 h
  refine zt rfl (by first | rfl | simp only [c9, zqa, zqb, zqc, zqd]) ?_
  refine zs ?_
  refine zg hT hA {} (by (repeat (cbv; simp only [c9])); first | done | cbv) (lb rfl) ?_
  refine nT ?_
  refine zr ?_
  refine rT ?_
  cases soI h
  exact ⟨rfl, rfl, rfl, lb rfl, _, rfl⟩

theorem C81w {A : Ar} (hA : A = Ar.std) {x1 : List D} {v12 : List D} (h : C81 A x1 = some v12) : ACall Try.prog 81 [(.d (.list 4 x1))] [] (.own 4 v12) [] := by
 unfold C81 at h
 refine ACall.enter hT (fn := Try.f81) Try.func81 rfl (by decide) (by simp [Try.f81]) rfl rfl rfl rfl (lb rfl) ?_
 refine zs ?_
 refine zg hT hA {} (by cbv) (lb rfl) ?_
 refine nT ?_
 refine zs ?_
 refine zs ?_
 rcases tf (A.zlt 0 (A.len x1)) with c2 | c2
 ·replace h := cT c2 h
  refine zg hT hA {} (by (repeat (cbv; simp only [c2])); first | done | cbv) (lb rfl) ?_
  refine nT ?_
  refine AWp.cond (b := false) (by cbv; simp only [c2]) ?_
  rw [if_neg Bool.false_ne_true]
  refine zk ?_
  refine nT ?_
  refine zs ?_
  obtain ⟨l4, e5, h⟩ := bindS h
  obtain ⟨f6, f7⟩ := apI e5
  refine zg hT hA { tk := [7] } (by (repeat (cbv; simp only [c2, f6, f7])); first | done | cbv) (lb rfl) ?_
  refine nT ?_
  refine zr ?_
  cases soI h
  exact ⟨rfl, rfl, rfl, lb rfl, _, rfl⟩
 ·replace h := cF c2 h
  refine zg hT hA {} (by (repeat (cbv; simp only [c2])); first | done | cbv) (lb rfl) ?_
  refine nT ?_
  obtain ⟨hc3a, hc3b⟩ := bothI h
  refine AWp.condAny (by cbv; simp only [c2]) ?_ ?_
  ·replace h := hc3a
   refine zs ?_
   refine zg hT hA {} (by (repeat (cbv; simp only [c2])); first | done | cbv) (lb rfl) ?_
   refine nT ?_
   refine zr ?_
   refine rT ?_
   cases soI h
   exact ⟨rfl, rfl, rfl, lb rfl, _, rfl⟩
  ·replace h := hc3b
   refine zk ?_
   refine nT ?_
   refine zs ?_
   obtain ⟨l8, e9, h⟩ := bindS h
   obtain ⟨f10, f11⟩ := apI e9
   refine zg hT hA { tk := [7] } (by (repeat (cbv; simp only [c2, f10, f11])); first | done | cbv) (lb rfl) ?_
   refine nT ?_
   refine zr ?_
   cases soI h
   exact ⟨rfl, rfl, rfl, lb rfl, _, rfl⟩

theorem C80w {A : Ar} (hA : A = Ar.std) {x1 : Int} {x2 : Int} {x3 : Int} {x4 : List D} {v17 : List D} (h : C80 A x1 x2 x3 x4 = some v17) : ACall Try.prog 80 [(.eptr 0 4 x1 2), (.iptr [(.int .i64 x2)]), (.iptr [(.int .i64 x3)])] [(.arr 4 x4)] (.tuple []) [(.arr 4 v17)] := by
 unfold C80 at h
 refine ACall.enter hT (fn := Try.f80) Try.func80 rfl (by decide) (by simp [Try.f80]) rfl rfl rfl rfl (lb rfl) ?_
 refine zs ?_
 obtain ⟨⟨a5, a6, a7, a8⟩, e9, h⟩ := bindS h
 have f10 := gcI e9
 refine zg hT hA {} (by (repeat (cbv; simp only [f10])); first | done | cbv) (lb rfl) ?_
 refine nT ?_
 refine zb ?_
 refine zs ?_
 refine zg hT hA {} (by cbv) (lb rfl) ?_
 refine nT ?_
 obtain ⟨v15, hvK16, h⟩ := bindS h
 refine AWp.cutN [] [] 1 (lb rfl) (fun τ => τ = { env := [], heap := [(.arr 4 v15)], n := 19 }) ?_ ?_
 ·skip
  rcases tf (A.zeq a7 x2) with c11 | c11
  ·replace hvK16 := cT c11 hvK16
   refine zt rfl (by first | rfl | simp only [c11, zqa, zqb, zqc, zqd]) ?_
   refine zg hT hA { tk := [11] } (by (repeat (cbv; simp only [c11, f10])); first | done | cbv) (lb rfl) ?_
   cases soI hvK16
   exact oNi ⟨rfl, (by first | (cbv; done) | ((repeat (cbv; simp only [c11])); first | done | cbv))⟩
  ·replace hvK16 := cF c11 hvK16
   refine zf rfl (by first | rfl | simp only [c11, zqa, zqb, zqc, zqd]) ?_
   refine zs ?_
   refine zg hT hA {} (by (repeat (cbv; simp only [c11])); first | done | cbv) (lb rfl) ?_
   refine nT ?_
   obtain ⟨v13, hvK14, hvK16⟩ := bindS hvK16
   refine AWp.cutN [] [] 1 (lb rfl) (fun τ => τ = { env := [], heap := [(.arr 4 v13)], n := 19 }) ?_ ?_
   ·skip
    rcases tf (A.zeq a7 x3) with c12 | c12
    ·replace hvK14 := cT c12 hvK14
     refine zt rfl (by first | rfl | simp only [c11, c12, zqa, zqb, zqc, zqd]) ?_
     refine zg hT hA { tk := [17] } (by (repeat (cbv; simp only [c11, c12, f10])); first | done | cbv) (lb rfl) ?_
     cases soI hvK14
     exact oNi ⟨rfl, (by first | (cbv; done) | ((repeat (cbv; simp only [c11, c12])); first | done | cbv))⟩
    ·replace hvK14 := cF c12 hvK14
     refine zf rfl (by first | rfl | simp only [c11, c12, zqa, zqb, zqc, zqd]) ?_
     refine zk ?_
     cases soI hvK14
     exact oNi ⟨rfl, (by first | (cbv; done) | ((repeat (cbv; simp only [c11, c12])); first | done | cbv))⟩
   ·rintro _ rfl
    cases soI hvK16
    exact oNi ⟨rfl, (by cbv)⟩
 ·rintro _ rfl
  refine nB ?_
  cases soI h
  exact ⟨rfl, rfl, rfl, lb rfl, _, rfl⟩

theorem C80aw {A : Ar} (hA : A = Ar.std) {x1 : Int} {x2 : Int} {x3 : Int} {x4 : List D} {v17 : List D} (h : C80a A x1 x2 x3 x4 = some v17) : ACall Try.prog 80 [(.eptr 0 4 x1 1), (.iptr [(.int .i64 x2)]), (.iptr [(.int .i64 x3)])] [(.arr 4 x4)] (.tuple []) [(.arr 4 v17)] := by
 unfold C80a at h
 refine ACall.enter hT (fn := Try.f80) Try.func80 rfl (by decide) (by simp [Try.f80]) rfl rfl rfl rfl (lb rfl) ?_
 refine zs ?_
 obtain ⟨⟨a5, a6, a7, a8⟩, e9, h⟩ := bindS h
 have f10 := gcI e9
 refine zg hT hA {} (by (repeat (cbv; simp only [f10])); first | done | cbv) (lb rfl) ?_
 refine nT ?_
 refine zb ?_
 refine zs ?_
 refine zg hT hA {} (by cbv) (lb rfl) ?_
 refine nT ?_
 obtain ⟨v15, hvK16, h⟩ := bindS h
 refine AWp.cutN [] [] 1 (lb rfl) (fun τ => τ = { env := [], heap := [(.arr 4 v15)], n := 19 }) ?_ ?_
 ·skip
  rcases tf (A.zeq a6 x2) with c11 | c11
  ·replace hvK16 := cT c11 hvK16
   refine zt rfl (by first | rfl | simp only [c11, zqa, zqb, zqc, zqd]) ?_
   refine zg hT hA { tk := [11] } (by (repeat (cbv; simp only [c11, f10])); first | done | cbv) (lb rfl) ?_
   cases soI hvK16
   exact oNi ⟨rfl, (by first | (cbv; done) | ((repeat (cbv; simp only [c11])); first | done | cbv))⟩
  ·replace hvK16 := cF c11 hvK16
   refine zf rfl (by first | rfl | simp only [c11, zqa, zqb, zqc, zqd]) ?_
   refine zs ?_
   refine zg hT hA {} (by (repeat (cbv; simp only [c11])); first | done | cbv) (lb rfl) ?_
   refine nT ?_
   obtain ⟨v13, hvK14, hvK16⟩ := bindS hvK16
   refine AWp.cutN [] [] 1 (lb rfl) (fun τ => τ = { env := [], heap := [(.arr 4 v13)], n := 19 }) ?_ ?_
   ·skip
    rcases tf (A.zeq a6 x3) with c12 | c12
    ·replace hvK14 := cT c12 hvK14
     refine zt rfl (by first | rfl | simp only [c11, c12, zqa, zqb, zqc, zqd]) ?_
     refine zg hT hA { tk := [17] } (by (repeat (cbv; simp only [c11, c12, f10])); first | done | cbv) (lb rfl) ?_
     cases soI hvK14
     exact oNi ⟨rfl, (by first | (cbv; done) | ((repeat (cbv; simp only [c11, c12])); first | done | cbv))⟩
    ·replace hvK14 := cF c12 hvK14
     refine zf rfl (by first | rfl | simp only [c11, c12, zqa, zqb, zqc, zqd]) ?_
     refine zk ?_
     cases soI hvK14
     exact oNi ⟨rfl, (by first | (cbv; done) | ((repeat (cbv; simp only [c11, c12])); first | done | cbv))⟩
   ·rintro _ rfl
    cases soI hvK16
    exact oNi ⟨rfl, (by cbv)⟩
 ·rintro _ rfl
  refine nB ?_
  cases soI h
  exact ⟨rfl, rfl, rfl, lb rfl, _, rfl⟩

theorem C29w {A : Ar} (hA : A = Ar.std) {x1 : List D} {x2 : Int} {x3 : Int} {v157 : List D} {v158 : Int} (h : C29 A x1 x2 x3 = some (v157, v158)) : ACall Try.prog 29 [(.d (.list 1 x1)), (.d (.int .i64 x2)), (.d (.int .i64 x3))] [] (.tuple [(.d (.list 1 v157)), (.d (.int .i64 v158))]) [] := by
 unfold C29 at h
 refine ACall.enter hT (fn := Try.f29) Try.func29 rfl (by decide) (by simp [Try.f29]) rfl rfl rfl rfl (lb rfl) ?_
 refine zs ?_
 refine zg hT hA {} (by cbv) (lb rfl) ?_
 refine nT ?_
 refine AWp.freezeBox 4 [(.int .i64 x2)] rfl rfl ?_
 refine AWp.freezeBox 5 [(.int .i64 x3)] rfl rfl ?_
 refine zs ?_
 refine zb ?_
 refine zs ?_
 refine zn ?_
 obtain ⟨r5, e4, h⟩ := bindS h
 refine AOps.cc hT hA {} (by cbv) (lb rfl) (C15w hA e4) rfl (.inl rfl) rfl rfl rfl (lb rfl) rfl rfl ?_
 refine AOps.cd hT hA {} (by cbv) (lb rfl) ?_
 refine nT ?_
 rcases tf r5 with c6 | c6
 ·replace h := cT c6 h
  refine zf rfl (by first | rfl | simp only [c6, zqa, zqb, zqc, zqd]) ?_
  refine zs ?_
  obtain ⟨v12, hvK13, h⟩ := bindS h
  refine AWp.cutN [0, 4, 5, 19] [] 0 (lb rfl) (fun τ => τ = { env := [(0, (.d (.list 1 x1))), (4, (.iptr [(.int .i64 x2)])), (5, (.iptr [(.int .i64 x3)])), (19, (.d (.bool v12)))], heap := [], n := 71 }) ?_ ?_
  ·skip
   refine zn ?_
   obtain ⟨r8, e7, hvK13⟩ := bindS hvK13
   refine AOps.cc hT hA {} (by (repeat (cbv; simp only [c6])); first | done | cbv) (lb rfl) (C79w hA e7) rfl (.inl rfl) rfl rfl rfl (lb rfl) rfl rfl ?_
   rcases tf r8 with c9 | c9
   ·replace hvK13 := cT c9 hvK13
    obtain ⟨r11, e10, hvK13⟩ := bindS hvK13
    refine AOps.cc hT hA {} (by (repeat (cbv; simp only [c6, c9])); first | done | cbv) (lb rfl) (C79w hA e10) rfl (.inl rfl) rfl rfl rfl (lb rfl) rfl rfl ?_
    refine AOps.cd hT hA {} (by (repeat (cbv; simp only [c6, c9])); first | done | cbv) (lb rfl) ?_
    cases soI hvK13
    exact oNi ⟨rfl, (by first | (cbv; done) | ((repeat (cbv; simp only [c6, c9])); first | done | cbv))⟩
   ·replace hvK13 := cF c9 hvK13
    refine AOps.cd hT hA {} (by (repeat (cbv; simp only [c6, c9])); first | done | cbv) (lb rfl) ?_
    cases soI hvK13
    exact oNi ⟨rfl, (by first | (cbv; done) | ((repeat (cbv; simp only [c6, c9])); first | done | cbv))⟩
  ·rintro _ rfl
   refine nT ?_
   rcases tf v12 with c14 | c14
   ·replace h := cT c14 h
    refine zt rfl (by first | rfl | simp only [c14, zqa, zqb, zqc, zqd]) ?_
    refine zs ?_
    refine zg hT hA {} (by (repeat (cbv; simp only [c14])); first | done | cbv) (lb rfl) ?_
    refine nT ?_
    refine zr ?_
    refine rB ?_
    refine rT ?_
    cases soI h
    exact ⟨rfl, rfl, rfl, lb rfl, _, rfl⟩
   ·replace h := cF c14 h
    refine zf rfl (by first | rfl | simp only [c14, zqa, zqb, zqc, zqd]) ?_
    refine zk ?_
    refine nB ?_
    refine nT ?_
    refine zs ?_
    refine zg hT hA {} (by (repeat (cbv; simp only [c14])); first | done | cbv) (lb rfl) ?_
    refine nT ?_
    refine zs ?_
    refine zg hT hA {} (by (repeat (cbv; simp only [c14])); first | done | cbv) (lb rfl) ?_
    refine nT ?_
    refine zs ?_
    refine zs ?_
    refine zg hT hA {} (by (repeat (cbv; simp only [c14])); first | done | cbv) (lb rfl) ?_
    refine nT ?_
    refine zb ?_
    obtain ⟨xK156, hxK156, K156, hK156, hkK156⟩ := bindK h
    refine AWp.cutX 1 [9] [] 0 (lb rfl) (fun τ => ∃ v155, K156 v155 = some (v157, v158) ∧ τ = { env := [(9, (.own 1 v155))], heap := [], n := 71 }) ?_ ?_
    ·skip
     refine AWp.iter hxK156 [8, 9, 29, 30, 31] [] 0 (lb rfl) (fun (v84, v85) => { env := [(8, (.func 80 [] [(.iptr [(.int .i64 x2)]), (.iptr [(.int .i64 x3)])])), (9, (.own 1 v84)), (29, (.d (.list 1 x1))), (30, (.d (.int .i64 (A.len x1)))), (31, (.d (.int .i64 v85)))], heap := [], n := 71 }) ⟨rfl, (by first | (cbv; done) | ((repeat (cbv; simp only [c14])); first | done | cbv))⟩ ?_
     rintro ⟨v84, v85⟩ eK156 hsK156
     dsimp only [C29L1] at hsK156
     refine zs ?_
     refine zg hT hA {} (by cbv) (lb rfl) ?_
     refine nT ?_
     refine zs ?_
     rcases tf (A.zlt v85 (A.len x1)) with c86 | c86
     ·replace hsK156 := cT c86 hsK156
      refine zt rfl (by first | rfl | simp only [c86, zqa, zqb, zqc, zqd]) ?_
      refine zk ?_
      refine nT ?_
      refine zs ?_
      refine zb ?_
      refine zs ?_
      obtain ⟨a87, e88, hsK156⟩ := bindS hsK156
      obtain ⟨f89, f90⟩ := gtI e88
      refine zg hT hA {} (by (repeat (cbv; simp only [c86, f89, f90])); first | done | cbv) (lb rfl) ?_
      refine nT ?_
      refine zs ?_
      refine zn ?_
      obtain ⟨r92, e91, hsK156⟩ := bindS hsK156
      rcases tf (A.zlt 0 (A.len r92)) with c93 | c93
      ·replace hsK156 := cT c93 hsK156
       obtain ⟨_, e94, hsK156⟩ := bindS hsK156
       refine AOps.cc hT hA {} (by (repeat (cbv; simp only [c86])); first | done | cbv) (lb rfl) (ACall.thaw (C81w hA e91) rfl rfl (neL hA c93) (ckI e94) (H := []) rfl (lenL hA)) rfl (.inl rfl) rfl rfl rfl (lb rfl) rfl rfl ?_
       refine AOps.cd hT hA {} (by (repeat (cbv; simp only [c86, c93])); first | done | cbv) (lb rfl) ?_
       refine nT ?_
       refine zs ?_
       refine zs ?_
       refine zg hT hA {} (by (repeat (cbv; simp only [c86, c93])); first | done | cbv) (lb rfl) ?_
       refine nT ?_
       refine zb ?_
       obtain ⟨xK146, hxK146, K146, hK146, hkK146⟩ := bindK hsK156
       refine AWp.cutX 3 [8, 9, 12, 29, 30, 31] [] 1 (lb rfl) (fun τ => ∃ v145, K146 v145 = some eK156 ∧ τ = { env := [(8, (.func 80 [] [(.iptr [(.int .i64 x2)]), (.iptr [(.int .i64 x3)])])), (9, (.own 1 v84)), (12, (.mref 0 4 0 (A.len r92))), (29, (.d (.list 1 x1))), (30, (.d (.int .i64 (A.len x1)))), (31, (.d (.int .i64 v85)))], heap := [(.arr 4 v145)], n := 71 }) ?_ ?_
       ·skip
        refine AWp.iter hxK146 [8, 9, 12, 29, 30, 31, 38, 39] [] 1 (lb rfl) (fun (v119, v120) => { env := [(8, (.func 80 [] [(.iptr [(.int .i64 x2)]), (.iptr [(.int .i64 x3)])])), (9, (.own 1 v84)), (12, (.mref 0 4 0 (A.len r92))), (29, (.d (.list 1 x1))), (30, (.d (.int .i64 (A.len x1)))), (31, (.d (.int .i64 v85))), (38, (.d (.int .i64 (A.len r92)))), (39, (.d (.int .i64 v119)))], heap := [(.arr 4 v120)], n := 71 }) ⟨rfl, (by first | (cbv; done) | ((repeat (cbv; simp only [c86, c93])); first | done | cbv))⟩ ?_
        rintro ⟨v119, v120⟩ eK146 hsK146
        dsimp only [C29L0] at hsK146
        refine zs ?_
        refine zg hT hA {} (by cbv) (lb rfl) ?_
        refine nT ?_
        refine zs ?_
        rcases tf (A.zlt v119 (A.len r92)) with c121 | c121
        ·replace hsK146 := cT c121 hsK146
         refine zt rfl (by first | rfl | simp only [c121, zqa, zqb, zqc, zqd]) ?_
         refine zk ?_
         refine nT ?_
         refine zs ?_
         refine zb ?_
         refine zs ?_
         refine zg hT hA {} (by (repeat (cbv; simp only [c121])); first | done | cbv) (lb rfl) ?_
         refine nT ?_
         refine zs ?_
         obtain ⟨_, e122, hsK146⟩ := bindS hsK146
         have f124 := ckI e122
         obtain ⟨_, e123, hsK146⟩ := bindS hsK146
         have f125 := ckI e123
         refine zg hT hA {} (by (repeat (cbv; simp only [c121, f124, f125])); first | done | cbv) (lb rfl) ?_
         refine nT ?_
         refine zs ?_
         obtain ⟨⟨a126, a127, a128, a129⟩, e130, hsK146⟩ := bindS hsK146
         have f131 := gcI e130
         refine zg hT hA {} (by (repeat (cbv; simp only [c121, f131])); first | done | cbv) (lb rfl) ?_
         refine nT ?_
         refine zb ?_
         refine zs ?_
         refine zg hT hA {} (by (repeat (cbv; simp only [c121])); first | done | cbv) (lb rfl) ?_
         refine nT ?_
         obtain ⟨v143, hvK144, hsK146⟩ := bindS hsK146
         refine AWp.cutN [8, 9, 12, 29, 30, 31, 38, 39] [] 1 (lb rfl) (fun τ => τ = { env := [(8, (.func 80 [] [(.iptr [(.int .i64 x2)]), (.iptr [(.int .i64 x3)])])), (9, (.own 1 v84)), (12, (.mref 0 4 0 (A.len r92))), (29, (.d (.list 1 x1))), (30, (.d (.int .i64 (A.len x1)))), (31, (.d (.int .i64 v85))), (38, (.d (.int .i64 (A.len r92)))), (39, (.d (.int .i64 v119)))], heap := [(.arr 4 v143)], n := 71 }) ?_ ?_
         ·skip
          rcases tf (A.zeq a126 1) with c132 | c132
          ·replace hvK144 := cT c132 hvK144
           refine zt rfl (by first | rfl | simp only [c121, c132, zqa, zqb, zqc, zqd]) ?_
           refine zn ?_
           obtain ⟨r134, e133, hvK144⟩ := bindS hvK144
           refine AOps.cc hT hA {} (by (repeat (cbv; simp only [c121, c132])); first | done | cbv) (lb rfl) (C80w hA e133) rfl (.inl rfl) rfl rfl rfl (lb rfl) rfl rfl ?_
           refine AOps.cd hT hA {} (by (repeat (cbv; simp only [c121, c132])); first | done | cbv) (lb rfl) ?_
           cases soI hvK144
           exact oNi ⟨rfl, (by first | (cbv; done) | ((repeat (cbv; simp only [c121, c132])); first | done | cbv))⟩
          ·replace hvK144 := cF c132 hvK144
           refine zf rfl (by first | rfl | simp only [c121, c132, zqa, zqb, zqc, zqd]) ?_
           refine zs ?_
           refine zs ?_
           refine zg hT hA {} (by (repeat (cbv; simp only [c121, c132])); first | done | cbv) (lb rfl) ?_
           refine nT ?_
           obtain ⟨v136, hvK137, hvK144⟩ := bindS hvK144
           refine AWp.cutN [8, 9, 12, 14, 29, 30, 31, 38, 39, 56] [] 1 (lb rfl) (fun τ => τ = { env := [(8, (.func 80 [] [(.iptr [(.int .i64 x2)]), (.iptr [(.int .i64 x3)])])), (9, (.own 1 v84)), (12, (.mref 0 4 0 (A.len r92))), (14, (.eptr 0 4 (A.zadd 0 v119) 0)), (29, (.d (.list 1 x1))), (30, (.d (.int .i64 (A.len x1)))), (31, (.d (.int .i64 v85))), (38, (.d (.int .i64 (A.len r92)))), (39, (.d (.int .i64 v119))), (56, (.d (.bool v136)))], heap := [(.arr 4 v120)], n := 71 }) ?_ ?_
           ·skip
            rcases tf (A.zeq a126 2) with c135 | c135
            ·replace hvK137 := cT c135 hvK137
             refine zt rfl (by first | rfl | simp only [c121, c132, c135, zqa, zqb, zqc, zqd]) ?_
             refine zk ?_
             cases soI hvK137
             exact oNi ⟨rfl, (by first | (cbv; done) | ((repeat (cbv; simp only [c121, c132, c135])); first | done | cbv))⟩
            ·replace hvK137 := cF c135 hvK137
             refine zf rfl (by first | rfl | simp only [c121, c132, c135, zqa, zqb, zqc, zqd]) ?_
             refine zg hT hA {} (by (repeat (cbv; simp only [c121, c132, c135])); first | done | cbv) (lb rfl) ?_
             cases soI hvK137
             exact oNi ⟨rfl, (by first | (cbv; done) | ((repeat (cbv; simp only [c121, c132, c135])); first | done | cbv))⟩
           ·rintro _ rfl
            refine nT ?_
            obtain ⟨v141, hvK142, hvK144⟩ := bindS hvK144
            refine AWp.cutN [8, 9, 12, 29, 30, 31, 38, 39] [] 1 (lb rfl) (fun τ => τ = { env := [(8, (.func 80 [] [(.iptr [(.int .i64 x2)]), (.iptr [(.int .i64 x3)])])), (9, (.own 1 v84)), (12, (.mref 0 4 0 (A.len r92))), (29, (.d (.list 1 x1))), (30, (.d (.int .i64 (A.len x1)))), (31, (.d (.int .i64 v85))), (38, (.d (.int .i64 (A.len r92)))), (39, (.d (.int .i64 v119)))], heap := [(.arr 4 v141)], n := 71 }) ?_ ?_
            ·skip
             rcases tf v136 with c138 | c138
             ·replace hvK142 := cT c138 hvK142
              refine zt rfl (by first | rfl | simp only [c138, zqa, zqb, zqc, zqd]) ?_
              refine zn ?_
              obtain ⟨r140, e139, hvK142⟩ := bindS hvK142
              refine AOps.cc hT hA {} (by (repeat (cbv; simp only [c138])); first | done | cbv) (lb rfl) (C80aw hA e139) rfl (.inl rfl) rfl rfl rfl (lb rfl) rfl rfl ?_
              refine AOps.cd hT hA {} (by (repeat (cbv; simp only [c138])); first | done | cbv) (lb rfl) ?_
              cases soI hvK142
              exact oNi ⟨rfl, (by first | (cbv; done) | ((repeat (cbv; simp only [c138])); first | done | cbv))⟩
             ·replace hvK142 := cF c138 hvK142
              refine zf rfl (by first | rfl | simp only [c138, zqa, zqb, zqc, zqd]) ?_
              refine zk ?_
              cases soI hvK142
              exact oNi ⟨rfl, (by first | (cbv; done) | ((repeat (cbv; simp only [c138])); first | done | cbv))⟩
            ·rintro _ rfl
             cases soI hvK144
             exact oNi ⟨rfl, (by cbv)⟩
         ·rintro _ rfl
          refine nB ?_
          refine nB ?_
          refine nT ?_
          refine zg hT hA {} (by cbv) (lb rfl) ?_
          exact nT ⟨_, (soI hsK146).symm, rfl, (by cbv)⟩
        ·replace hsK146 := cF c121 hsK146
         refine zf rfl (by first | rfl | simp only [c121, zqa, zqb, zqc, zqd]) ?_
         refine AWp.exit ?_
         refine xT ?_
         refine xT ?_
         refine exL hsK146 fun hx => ?_
         subst hx
         exact oxI ⟨rfl, _, hkK146, (by first | (cbv; done) | ((repeat (cbv; simp only [c121])); first | done | cbv))⟩
       ·rintro _ ⟨v145, hkK146, rfl⟩
        have hsK156 := (hK146 _ hkK146)
        refine xB ?_
        refine nT ?_
        obtain ⟨l147, e148, hsK156⟩ := bindS hsK156
        obtain ⟨f149, f150⟩ := fzI hA e148
        refine AWp.freeze (s := 12) (i := 0) rfl rfl f149 f150 ?_
        obtain ⟨l151, e152, hsK156⟩ := bindS hsK156
        obtain ⟨f153, f154⟩ := apI e152
        refine zg hT hA { tk := [9, 68] } (by (repeat (cbv; simp only [f153, f154])); first | done | cbv) (lb rfl) ?_
        refine nB ?_
        refine nT ?_
        refine zg hT hA {} (by cbv) (lb rfl) ?_
        exact nT ⟨_, (soI hsK156).symm, rfl, (by cbv)⟩
      ·replace hsK156 := cF c93 hsK156
       cases hsK156
     ·replace hsK156 := cF c86 hsK156
      refine zf rfl (by first | rfl | simp only [c86, zqa, zqb, zqc, zqd]) ?_
      refine AWp.exit ?_
      refine xT ?_
      refine xT ?_
      refine exL hsK156 fun hx => ?_
      subst hx
      exact oxI ⟨rfl, _, hkK156, (by first | (cbv; done) | ((repeat (cbv; simp only [c86])); first | done | cbv))⟩
    ·rintro _ ⟨v155, hkK156, rfl⟩
     have h := (hK156 _ hkK156)
     refine xB ?_
     refine nT ?_
     refine zs ?_
     refine zg hT hA {} (by cbv) (lb rfl) ?_
     refine nT ?_
     refine zr ?_
     cases soI h
     exact ⟨rfl, rfl, rfl, lb rfl, _, rfl⟩
 ·replace h := cF c6 h
  refine zt rfl (by first | rfl | simp only [c6, zqa, zqb, zqc, zqd]) ?_
  refine zs ?_
  refine zg hT hA {} (by (repeat (cbv; simp only [c6])); first | done | cbv) (lb rfl) ?_
  refine nT ?_
  refine zr ?_
  refine rB ?_
  refine rT ?_
  cases soI h
  exact ⟨rfl, rfl, rfl, lb rfl, _, rfl⟩

theorem C83w {A : Ar} (hA : A = Ar.std) {x1 : Int} {x2 : Int} {x3 : Int} {v6 : Int} (h : C83 A x1 x2 x3 = some v6) : ACall Try.prog 83 [(.d (.int .i64 x1)), (.d (.int .i64 x2)), (.d (.int .i64 x3))] [] (.d (.int .i64 v6)) [] := by
 unfold C83 at h
 refine ACall.enter hT (fn := Try.f83) Try.func83 rfl (by decide) (by simp [Try.f83]) rfl rfl rfl rfl (lb rfl) ?_
 refine zs ?_
 refine zg hT hA {} (by cbv) (lb rfl) ?_
 refine nT ?_
 refine zs ?_
 refine zs ?_
 refine zg hT hA {} (by cbv) (lb rfl) ?_
 refine nT ?_
 rcases tf (A.zeq x1 x2) with c4 | c4
 ·replace h := cT c4 h
  refine zt rfl (by first | rfl | simp only [c4, zqa, zqb, zqc, zqd]) ?_
  refine zs ?_
  refine zg hT hA { tk := [2, 10] } (by (repeat (cbv; simp only [c4])); first | done | cbv) (lb rfl) ?_
  refine nT ?_
  refine zr ?_
  refine rT ?_
  cases soI h
  exact ⟨rfl, rfl, rfl, lb rfl, _, rfl⟩
 ·replace h := cF c4 h
  refine zf rfl (by first | rfl | simp only [c4, zqa, zqb, zqc, zqd]) ?_
  refine zk ?_
  refine nT ?_
  refine zs ?_
  refine zs ?_
  refine zg hT hA {} (by (repeat (cbv; simp only [c4])); first | done | cbv) (lb rfl) ?_
  refine nT ?_
  rcases tf (A.zeq x1 x3) with c5 | c5
  ·replace h := cT c5 h
   refine zt rfl (by first | rfl | simp only [c4, c5, zqa, zqb, zqc, zqd]) ?_
   refine zs ?_
   refine zg hT hA { tk := [1, 14] } (by (repeat (cbv; simp only [c4, c5])); first | done | cbv) (lb rfl) ?_
   refine nT ?_
   refine zr ?_
   refine rT ?_
   cases soI h
   exact ⟨rfl, rfl, rfl, lb rfl, _, rfl⟩
  ·replace h := cF c5 h
   refine zf rfl (by first | rfl | simp only [c4, c5, zqa, zqb, zqc, zqd]) ?_
   refine zk ?_
   refine nT ?_
   refine zs ?_
   refine zg hT hA { tk := [0, 15] } (by (repeat (cbv; simp only [c4, c5])); first | done | cbv) (lb rfl) ?_
   refine nT ?_
   refine zr ?_
   cases soI h
   exact ⟨rfl, rfl, rfl, lb rfl, _, rfl⟩

theorem C30w {A : Ar} (hA : A = Ar.std) {x1 : List D} {x2 : Int} {x3 : Int} {v219 : List D} {v220 : Int} (h : C30 A x1 x2 x3 = some (v219, v220)) : ACall Try.prog 30 [(.d (.list 1 x1)), (.d (.int .i64 x2)), (.d (.int .i64 x3))] [] (.tuple [(.d (.list 1 v219)), (.d (.int .i64 v220))]) [] := by
 unfold C30 at h
 refine ACall.enter hT (fn := Try.f30) Try.func30 rfl (by decide) (by simp [Try.f30]) rfl rfl rfl rfl (lb rfl) ?_
 refine zs ?_
 refine zg hT hA {} (by cbv) (lb rfl) ?_
 refine nT ?_
 refine zs ?_
 refine zs ?_
 refine zn ?_
 obtain ⟨r5, e4, h⟩ := bindS h
 refine AOps.cc hT hA {} (by cbv) (lb rfl) (C16w hA e4) rfl (.inl rfl) rfl rfl rfl (lb rfl) rfl rfl ?_
 refine AOps.cd hT hA {} (by cbv) (lb rfl) ?_
 refine nT ?_
 rcases tf r5 with c6 | c6
 ·replace h := cT c6 h
  refine zf rfl (by first | rfl | simp only [c6, zqa, zqb, zqc, zqd]) ?_
  refine zk ?_
  refine nT ?_
  refine zs ?_
  refine zs ?_
  obtain ⟨v12, hvK13, h⟩ := bindS h
  refine AWp.cutN [0, 1, 2, 22] [] 0 (lb rfl) (fun τ => τ = { env := [(0, (.d (.list 1 x1))), (1, (.d (.int .i64 x2))), (2, (.d (.int .i64 x3))), (22, (.d (.bool v12)))], heap := [], n := 80 }) ?_ ?_
  ·skip
   refine zn ?_
   obtain ⟨r8, e7, hvK13⟩ := bindS hvK13
   refine AOps.cc hT hA {} (by (repeat (cbv; simp only [c6])); first | done | cbv) (lb rfl) (C82w hA e7) rfl (.inl rfl) rfl rfl rfl (lb rfl) rfl rfl ?_
   rcases tf r8 with c9 | c9
   ·replace hvK13 := cT c9 hvK13
    obtain ⟨r11, e10, hvK13⟩ := bindS hvK13
    refine AOps.cc hT hA {} (by (repeat (cbv; simp only [c6, c9])); first | done | cbv) (lb rfl) (C82w hA e10) rfl (.inl rfl) rfl rfl rfl (lb rfl) rfl rfl ?_
    refine AOps.cd hT hA {} (by (repeat (cbv; simp only [c6, c9])); first | done | cbv) (lb rfl) ?_
    cases soI hvK13
    exact oNi ⟨rfl, (by first | (cbv; done) | ((repeat (cbv; simp only [c6, c9])); first | done | cbv))⟩
   ·replace hvK13 := cF c9 hvK13
    refine AOps.cd hT hA {} (by (repeat (cbv; simp only [c6, c9])); first | done | cbv) (lb rfl) ?_
    cases soI hvK13
    exact oNi ⟨rfl, (by first | (cbv; done) | ((repeat (cbv; simp only [c6, c9])); first | done | cbv))⟩
  ·rintro _ rfl
   refine nT ?_
   rcases tf v12 with c14 | c14
   ·replace h := cT c14 h
    refine zt rfl (by first | rfl | simp only [c14, zqa, zqb, zqc, zqd]) ?_
    refine zs ?_
    refine zg hT hA {} (by (repeat (cbv; simp only [c14])); first | done | cbv) (lb rfl) ?_
    refine nT ?_
    refine zr ?_
    refine rT ?_
    cases soI h
    exact ⟨rfl, rfl, rfl, lb rfl, _, rfl⟩
   ·replace h := cF c14 h
    refine zf rfl (by first | rfl | simp only [c14, zqa, zqb, zqc, zqd]) ?_
    refine zk ?_
    refine nT ?_
    refine zs ?_
    refine zg hT hA {} (by (repeat (cbv; simp only [c14])); first | done | cbv) (lb rfl) ?_
    refine nT ?_
    refine zs ?_
    refine zs ?_
    refine zg hT hA {} (by (repeat (cbv; simp only [c14])); first | done | cbv) (lb rfl) ?_
    refine nT ?_
    refine zb ?_
    obtain ⟨xK218, hxK218, K218, hK218, hkK218⟩ := bindK h
    refine AWp.cutX 0 [8] [] 0 (lb rfl) (fun τ => ∃ v217, K218 v217 = some (v219, v220) ∧ τ = { env := [(8, (.own 1 v217))], heap := [], n := 80 }) ?_ ?_
    ·skip
     refine AWp.iter hxK218 [0, 1, 2, 8, 9] [] 0 (lb rfl) (fun (v115, v116) => { env := [(0, (.d (.list 1 x1))), (1, (.d (.int .i64 x2))), (2, (.d (.int .i64 x3))), (8, (.own 1 v115)), (9, (.d (.int .i64 v116)))], heap := [], n := 80 }) ⟨rfl, (by first | (cbv; done) | ((repeat (cbv; simp only [c14])); first | done | cbv))⟩ ?_
     rintro ⟨v115, v116⟩ eK218 hsK218
     dsimp only [C30L1] at hsK218
     refine zs ?_
     refine zs ?_
     refine zg hT hA {} (by cbv) (lb rfl) ?_
     refine nT ?_
     rcases tf (A.zlt v116 (A.len x1)) with c117 | c117
     ·replace hsK218 := cT c117 hsK218
      refine zt rfl (by first | rfl | simp only [c117, zqa, zqb, zqc, zqd]) ?_
      refine zk ?_
      refine nT ?_
      refine zs ?_
      refine zb ?_
      refine zs ?_
      obtain ⟨a118, e119, hsK218⟩ := bindS hsK218
      obtain ⟨f120, f121⟩ := gtI e119
      rcases tf (A.zlt 0 (A.len a118)) with c122 | c122
      ·replace hsK218 := cT c122 hsK218
       obtain ⟨_, e123, hsK218⟩ := bindS hsK218
       have f124 := ckI e123
       refine zg hT hA { nl := [29], th := [34] } (by (repeat (cbv; simp only [c117, c122, f120, f121, f124])); first | done | cbv) (lb rfl) ?_
       refine nT ?_
       refine zs ?_
       refine zs ?_
       refine zg hT hA {} (by (repeat (cbv; simp only [c117, c122])); first | done | cbv) (lb rfl) ?_
       refine nT ?_
       refine zb ?_
       obtain ⟨xK208, hxK208, K208, hK208, hkK208⟩ := bindK hsK218
       refine AWp.cutX 2 [0, 1, 2, 8, 9, 10] [] 1 (lb rfl) (fun τ => ∃ v207, K208 v207 = some eK218 ∧ τ = { env := [(0, (.d (.list 1 x1))), (1, (.d (.int .i64 x2))), (2, (.d (.int .i64 x3))), (8, (.own 1 v115)), (9, (.d (.int .i64 v116))), (10, (.mref 0 4 0 (A.zadd (A.len []) (A.len a118))))], heap := [(.arr 4 v207)], n := 80 }) ?_ ?_
       ·skip
        refine AWp.iter hxK208 [0, 1, 2, 8, 9, 10, 11] [] 1 (lb rfl) (fun (v165, v166) => { env := [(0, (.d (.list 1 x1))), (1, (.d (.int .i64 x2))), (2, (.d (.int .i64 x3))), (8, (.own 1 v115)), (9, (.d (.int .i64 v116))), (10, (.mref 0 4 0 (A.zadd (A.len []) (A.len a118)))), (11, (.d (.int .i64 v165)))], heap := [(.arr 4 v166)], n := 80 }) ⟨rfl, (by first | (cbv; done) | ((repeat (cbv; simp only [c117, c122])); first | done | cbv))⟩ ?_
        rintro ⟨v165, v166⟩ eK208 hsK208
        dsimp only [C30L0] at hsK208
        refine zs ?_
        refine zs ?_
        refine zg hT hA {} (by cbv) (lb rfl) ?_
        refine nT ?_
        rcases tf (A.zlt v165 (A.zadd (A.len []) (A.len a118))) with c167 | c167
        ·replace hsK208 := cT c167 hsK208
         refine zt rfl (by first | rfl | simp only [c167, zqa, zqb, zqc, zqd]) ?_
         refine zk ?_
         refine nT ?_
         refine zs ?_
         refine zb ?_
         refine zs ?_
         obtain ⟨_, e168, hsK208⟩ := bindS hsK208
         have f170 := ckI e168
         obtain ⟨_, e169, hsK208⟩ := bindS hsK208
         have f171 := ckI e169
         obtain ⟨⟨a172, a173, a174, a175⟩, e176, hsK208⟩ := bindS hsK208
         have f177 := gcI e176
         refine zg hT hA {} (by (repeat (cbv; simp only [c167, f170, f171, f177])); first | done | cbv) (lb rfl) ?_
         refine nT ?_
         refine zb ?_
         refine zs ?_
         refine zg hT hA {} (by (repeat (cbv; simp only [c167])); first | done | cbv) (lb rfl) ?_
         refine nT ?_
         obtain ⟨v205, hvK206, hsK208⟩ := bindS hsK208
         refine AWp.cutN [0, 1, 2, 8, 9, 10, 11] [] 1 (lb rfl) (fun τ => τ = { env := [(0, (.d (.list 1 x1))), (1, (.d (.int .i64 x2))), (2, (.d (.int .i64 x3))), (8, (.own 1 v115)), (9, (.d (.int .i64 v116))), (10, (.mref 0 4 0 (A.zadd (A.len []) (A.len a118)))), (11, (.d (.int .i64 v165)))], heap := [(.arr 4 v205)], n := 80 }) ?_ ?_
         ·skip
          rcases tf (A.zeq a172 1) with c178 | c178
          ·replace hvK206 := cT c178 hvK206
           refine zt rfl (by first | rfl | simp only [c167, c178, zqa, zqb, zqc, zqd]) ?_
           refine zn ?_
           obtain ⟨_, e179, hvK206⟩ := bindS hvK206
           have f181 := ckI e179
           obtain ⟨_, e180, hvK206⟩ := bindS hvK206
           have f182 := ckI e180
           obtain ⟨r184, e183, hvK206⟩ := bindS hvK206
           refine AOps.cc hT hA {} (by (repeat (cbv; simp only [c167, c178, f181, f182, f177])); first | done | cbv) (lb rfl) (C83w hA e183) rfl (.inr rfl) rfl rfl rfl (lb rfl) rfl rfl ?_
           obtain ⟨_, e185, hvK206⟩ := bindS hvK206
           have f187 := ckI e185
           obtain ⟨_, e186, hvK206⟩ := bindS hvK206
           have f188 := ckI e186
           refine AOps.cd hT hA {} (by (repeat (cbv; simp only [c167, c178, f181, f182, f177, f187, f188])); first | done | cbv) (lb rfl) ?_
           cases soI hvK206
           exact oNi ⟨rfl, (by first | (cbv; done) | ((repeat (cbv; simp only [c167, c178])); first | done | cbv))⟩
          ·replace hvK206 := cF c178 hvK206
           refine zf rfl (by first | rfl | simp only [c167, c178, zqa, zqb, zqc, zqd]) ?_
           refine zs ?_
           refine zs ?_
           refine zg hT hA {} (by (repeat (cbv; simp only [c167, c178])); first | done | cbv) (lb rfl) ?_
           refine nT ?_
           obtain ⟨v190, hvK191, hvK206⟩ := bindS hvK206
           refine AWp.cutN [0, 1, 2, 8, 9, 10, 11, 60] [] 1 (lb rfl) (fun τ => τ = { env := [(0, (.d (.list 1 x1))), (1, (.d (.int .i64 x2))), (2, (.d (.int .i64 x3))), (8, (.own 1 v115)), (9, (.d (.int .i64 v116))), (10, (.mref 0 4 0 (A.zadd (A.len []) (A.len a118)))), (11, (.d (.int .i64 v165))), (60, (.d (.bool v190)))], heap := [(.arr 4 v166)], n := 80 }) ?_ ?_
           ·skip
            rcases tf (A.zeq a172 2) with c189 | c189
            ·replace hvK191 := cT c189 hvK191
             refine zt rfl (by first | rfl | simp only [c167, c178, c189, zqa, zqb, zqc, zqd]) ?_
             refine zk ?_
             cases soI hvK191
             exact oNi ⟨rfl, (by first | (cbv; done) | ((repeat (cbv; simp only [c167, c178, c189])); first | done | cbv))⟩
            ·replace hvK191 := cF c189 hvK191
             refine zf rfl (by first | rfl | simp only [c167, c178, c189, zqa, zqb, zqc, zqd]) ?_
             refine zg hT hA {} (by (repeat (cbv; simp only [c167, c178, c189])); first | done | cbv) (lb rfl) ?_
             cases soI hvK191
             exact oNi ⟨rfl, (by first | (cbv; done) | ((repeat (cbv; simp only [c167, c178, c189])); first | done | cbv))⟩
           ·rintro _ rfl
            refine nT ?_
            obtain ⟨v203, hvK204, hvK206⟩ := bindS hvK206
            refine AWp.cutN [0, 1, 2, 8, 9, 10, 11] [] 1 (lb rfl) (fun τ => τ = { env := [(0, (.d (.list 1 x1))), (1, (.d (.int .i64 x2))), (2, (.d (.int .i64 x3))), (8, (.own 1 v115)), (9, (.d (.int .i64 v116))), (10, (.mref 0 4 0 (A.zadd (A.len []) (A.len a118)))), (11, (.d (.int .i64 v165)))], heap := [(.arr 4 v203)], n := 80 }) ?_ ?_
            ·skip
             rcases tf v190 with c192 | c192
             ·replace hvK204 := cT c192 hvK204
              refine zt rfl (by first | rfl | simp only [c192, zqa, zqb, zqc, zqd]) ?_
              refine zn ?_
              obtain ⟨_, e193, hvK204⟩ := bindS hvK204
              have f195 := ckI e193
              obtain ⟨_, e194, hvK204⟩ := bindS hvK204
              have f196 := ckI e194
              obtain ⟨r198, e197, hvK204⟩ := bindS hvK204
              refine AOps.cc hT hA {} (by (repeat (cbv; simp only [c192, f195, f196, f177])); first | done | cbv) (lb rfl) (C83w hA e197) rfl (.inr rfl) rfl rfl rfl (lb rfl) rfl rfl ?_
              obtain ⟨_, e199, hvK204⟩ := bindS hvK204
              have f201 := ckI e199
              obtain ⟨_, e200, hvK204⟩ := bindS hvK204
              have f202 := ckI e200
              refine AOps.cd hT hA {} (by (repeat (cbv; simp only [c192, f195, f196, f177, f201, f202])); first | done | cbv) (lb rfl) ?_
              cases soI hvK204
              exact oNi ⟨rfl, (by first | (cbv; done) | ((repeat (cbv; simp only [c192])); first | done | cbv))⟩
             ·replace hvK204 := cF c192 hvK204
              refine zf rfl (by first | rfl | simp only [c192, zqa, zqb, zqc, zqd]) ?_
              refine zk ?_
              cases soI hvK204
              exact oNi ⟨rfl, (by first | (cbv; done) | ((repeat (cbv; simp only [c192])); first | done | cbv))⟩
            ·rintro _ rfl
             cases soI hvK206
             exact oNi ⟨rfl, (by cbv)⟩
         ·rintro _ rfl
          refine nB ?_
          refine nB ?_
          refine nT ?_
          refine zg hT hA {} (by cbv) (lb rfl) ?_
          exact nT ⟨_, (soI hsK208).symm, rfl, (by cbv)⟩
        ·replace hsK208 := cF c167 hsK208
         refine zf rfl (by first | rfl | simp only [c167, zqa, zqb, zqc, zqd]) ?_
         refine AWp.exit ?_
         refine xT ?_
         refine xT ?_
         refine exL hsK208 fun hx => ?_
         subst hx
         exact oxI ⟨rfl, _, hkK208, (by first | (cbv; done) | ((repeat (cbv; simp only [c167])); first | done | cbv))⟩
       ·rintro _ ⟨v207, hkK208, rfl⟩
        have hsK218 := (hK208 _ hkK208)
        refine xB ?_
        refine nT ?_
        obtain ⟨l209, e210, hsK218⟩ := bindS hsK218
        obtain ⟨f211, f212⟩ := fzI hA e210
        refine AWp.freeze (s := 10) (i := 0) rfl rfl f211 f212 ?_
        obtain ⟨l213, e214, hsK218⟩ := bindS hsK218
        obtain ⟨f215, f216⟩ := apI e214
        refine zg hT hA { tk := [8, 78] } (by (repeat (cbv; simp only [f215, f216])); first | done | cbv) (lb rfl) ?_
        refine nB ?_
        refine nT ?_
        refine zg hT hA {} (by cbv) (lb rfl) ?_
        exact nT ⟨_, (soI hsK218).symm, rfl, (by cbv)⟩
      ·replace hsK218 := cF c122 hsK218
       cases hsK218
     ·replace hsK218 := cF c117 hsK218
      refine zf rfl (by first | rfl | simp only [c117, zqa, zqb, zqc, zqd]) ?_
      refine AWp.exit ?_
      refine xT ?_
      refine xT ?_
      refine exL hsK218 fun hx => ?_
      subst hx
      exact oxI ⟨rfl, _, hkK218, (by first | (cbv; done) | ((repeat (cbv; simp only [c117])); first | done | cbv))⟩
    ·rintro _ ⟨v217, hkK218, rfl⟩
     have h := (hK218 _ hkK218)
     refine xB ?_
     refine nT ?_
     refine zs ?_
     refine zg hT hA {} (by cbv) (lb rfl) ?_
     refine nT ?_
     refine zr ?_
     cases soI h
     exact ⟨rfl, rfl, rfl, lb rfl, _, rfl⟩
 ·replace h := cF c6 h
  refine zt rfl (by first | rfl | simp only [c6, zqa, zqb, zqc, zqd]) ?_
  refine zs ?_
  refine zg hT hA {} (by (repeat (cbv; simp only [c6])); first | done | cbv) (lb rfl) ?_
  refine nT ?_
  refine zr ?_
  refine rT ?_
  cases soI h
  exact ⟨rfl, rfl, rfl, lb rfl, _, rfl⟩

theorem C31w {A : Ar} (hA : A = Ar.std) {x1 : List D} {x2 : List D} {v94 : Bool} (h : C31 A x1 x2 = some v94) : ACall Try.prog 31 [(.d (.list 1 x1)), (.d (.list 1 x2))] [] (.d (.bool v94)) [] := by
 unfold C31 at h
 refine ACall.enter hT (fn := Try.f31) Try.func31 rfl (by decide) (by simp [Try.f31]) rfl rfl rfl rfl (lb rfl) ?_
 refine zs ?_
 refine zg hT hA {} (by cbv) (lb rfl) ?_
 refine nT ?_
 refine zs ?_
 refine zs ?_
 refine zg hT hA {} (by cbv) (lb rfl) ?_
 refine nT ?_
 rcases tf (A.zeq (A.len x1) (A.len x2)) with c3 | c3
 ·replace h := cT c3 h
  refine zf rfl (by first | rfl | simp only [c3, zqa, zqb, zqc, zqd]) ?_
  refine zk ?_
  refine nT ?_
  refine zs ?_
  refine zs ?_
  refine zg hT hA {} (by (repeat (cbv; simp only [c3])); first | done | cbv) (lb rfl) ?_
  refine nT ?_
  refine zb ?_
  obtain ⟨xK93, hxK93, K93, hK93, hkK93⟩ := bindK h
  refine AWp.cutX 0 [] [] 0 (lb rfl) (fun τ => K93 (.inl ()) = some v94 ∧ τ = { env := [], heap := [], n := 53 }) ?_ ?_
  ·skip
   refine AWp.iter hxK93 [0, 1, 5] [] 0 (lb rfl) (fun v48 => { env := [(0, (.d (.list 1 x1))), (1, (.d (.list 1 x2))), (5, (.d (.int .i64 v48)))], heap := [], n := 53 }) ⟨rfl, (by first | (cbv; done) | ((repeat (cbv; simp only [c3])); first | done | cbv))⟩ ?_
   rintro v48 eK93 hsK93
   dsimp only [C31L1] at hsK93
   refine zs ?_
   refine zs ?_
   refine zg hT hA {} (by cbv) (lb rfl) ?_
   refine nT ?_
   rcases tf (A.zlt v48 (A.len x1)) with c49 | c49
   ·replace hsK93 := cT c49 hsK93
    refine zt rfl (by first | rfl | simp only [c49, zqa, zqb, zqc, zqd]) ?_
    refine zk ?_
    refine nT ?_
    refine zs ?_
    refine zb ?_
    refine zs ?_
    refine zs ?_
    obtain ⟨a50, e51, hsK93⟩ := bindS hsK93
    obtain ⟨f52, f53⟩ := gtI e51
    obtain ⟨a54, e55, hsK93⟩ := bindS hsK93
    obtain ⟨f56, f57⟩ := gtI e55
    refine AWp.rd hT hA {} rfl (by (repeat (cbv; simp only [c49, f52, f53, f56, f57])); first | done | cbv) (by kernel_rfl) (lb rfl) ?_
    refine nT ?_
    rcases tf (A.zeq (A.len a50) (A.len a54)) with c58 | c58
    ·replace hsK93 := cT c58 hsK93
     refine zf rfl (by first | rfl | simp only [c49, c58, zqa, zqb, zqc, zqd]) ?_
     refine zk ?_
     refine nT ?_
     refine zs ?_
     refine zg hT hA {} (by (repeat (cbv; simp only [c49, c58])); first | done | cbv) (lb rfl) ?_
     refine nT ?_
     refine zb ?_
     obtain ⟨xK92, hxK92, K92, hK92, hkK92⟩ := bindK hsK93
     refine AWp.cutX 2 [0, 1, 5] [] 0 (lb rfl) (fun τ => K92 (.inl ()) = some eK93 ∧ τ = { env := [(0, (.d (.list 1 x1))), (1, (.d (.list 1 x2))), (5, (.d (.int .i64 v48)))], heap := [], n := 53 }) ?_ ?_
     ·skip
      refine AWp.iter hxK92 [0, 1, 5, 6] [] 0 (lb rfl) (fun v75 => { env := [(0, (.d (.list 1 x1))), (1, (.d (.list 1 x2))), (5, (.d (.int .i64 v48))), (6, (.d (.int .i64 v75)))], heap := [], n := 53 }) ⟨rfl, (by first | (cbv; done) | ((repeat (cbv; simp only [c49, c58])); first | done | cbv))⟩ ?_
      rintro v75 eK92 hsK92
      dsimp only [C31L0] at hsK92
      refine zs ?_
      refine zs ?_
      refine zg hT hA {} (by (repeat (cbv; simp only [f52, f53])); first | done | cbv) (lb rfl) ?_
      refine nT ?_
      rcases tf (A.zlt v75 (A.len a50)) with c76 | c76
      ·replace hsK92 := cT c76 hsK92
       refine zt rfl (by first | rfl | simp only [c76, zqa, zqb, zqc, zqd]) ?_
       refine zk ?_
       refine nT ?_
       refine zs ?_
       refine zb ?_
       refine zs ?_
       obtain ⟨⟨a77, a78, a79, a80⟩, e81, hsK92⟩ := bindS hsK92
       obtain ⟨f82, f83⟩ := gtI e81
       obtain ⟨⟨a84, a85, a86, a87⟩, e88, hsK92⟩ := bindS hsK92
       obtain ⟨f89, f90⟩ := gtI e88
       refine AWp.rd hT hA {} rfl (by (repeat (cbv; simp only [c76, f52, f53, f82, f83, f56, f57, f89, f90])); first | done | cbv) (by kernel_rfl) (lb rfl) ?_
       refine nT ?_
       rcases tf (A.deq [(.int .i64 a77), (.int .i64 a78), (.int .i64 a79), (.int .i64 a80)] [(.int .i64 a84), (.int .i64 a85), (.int .i64 a86), (.int .i64 a87)]) with c91 | c91
       ·replace hsK92 := cT c91 hsK92
        refine zf rfl (by first | rfl | simp only [c76, c91, zqa, zqb, zqc, zqd]) ?_
        refine zk ?_
        refine nB ?_
        refine nT ?_
        refine zg hT hA {} (by (repeat (cbv; simp only [c76, c91])); first | done | cbv) (lb rfl) ?_
        exact nT ⟨_, (soI hsK92).symm, rfl, (by first | (cbv; done) | ((repeat (cbv; simp only [c76, c91])); first | done | cbv))⟩
       ·replace hsK92 := cF c91 hsK92
        refine zt rfl (by first | rfl | simp only [c76, c91, zqa, zqb, zqc, zqd]) ?_
        refine zs ?_
        refine zg hT hA {} (by (repeat (cbv; simp only [c76, c91])); first | done | cbv) (lb rfl) ?_
        refine nT ?_
        refine zr ?_
        refine rB ?_
        refine rT ?_
        refine rT ?_
        refine exL hsK92 fun hx => ?_
        subst hx
        refine oxR ?_
        replace hkK92 := (eR (hK92 _ hkK92))
        refine rB ?_
        refine rB ?_
        refine rT ?_
        refine rT ?_
        refine exL hkK92 fun hx => ?_
        subst hx
        refine oxR ?_
        replace hkK93 := (eR (hK93 _ hkK93))
        refine rB ?_
        refine rT ?_
        cases soI hkK93
        exact ⟨rfl, rfl, rfl, lb rfl, _, rfl⟩
      ·replace hsK92 := cF c76 hsK92
       refine zf rfl (by first | rfl | simp only [c76, zqa, zqb, zqc, zqd]) ?_
       refine AWp.exit ?_
       refine xT ?_
       refine xT ?_
       refine exL hsK92 fun hx => ?_
       subst hx
       exact oxI ⟨rfl, hkK92, (by first | (cbv; done) | ((repeat (cbv; simp only [c76])); first | done | cbv))⟩
     ·rintro _ ⟨hkK92, rfl⟩
      have hsK93 := (eL (hK92 _ hkK92))
      refine xB ?_
      refine nB ?_
      refine nT ?_
      refine zg hT hA {} (by cbv) (lb rfl) ?_
      exact nT ⟨_, (soI hsK93).symm, rfl, (by cbv)⟩
    ·replace hsK93 := cF c58 hsK93
     refine zt rfl (by first | rfl | simp only [c49, c58, zqa, zqb, zqc, zqd]) ?_
     refine zs ?_
     refine zg hT hA {} (by (repeat (cbv; simp only [c49, c58])); first | done | cbv) (lb rfl) ?_
     refine nT ?_
     refine zr ?_
     refine rT ?_
     refine rB ?_
     refine rT ?_
     refine rT ?_
     refine exL hsK93 fun hx => ?_
     subst hx
     refine oxR ?_
     replace hkK93 := (eR (hK93 _ hkK93))
     refine rB ?_
     refine rT ?_
     cases soI hkK93
     exact ⟨rfl, rfl, rfl, lb rfl, _, rfl⟩
   ·replace hsK93 := cF c49 hsK93
    refine zf rfl (by first | rfl | simp only [c49, zqa, zqb, zqc, zqd]) ?_
    refine AWp.exit ?_
    refine xT ?_
    refine xT ?_
    refine exL hsK93 fun hx => ?_
    subst hx
    exact oxI ⟨rfl, hkK93, (by first | (cbv; done) | ((repeat (cbv; simp only [c49])); first | done | cbv))⟩
  ·rintro _ ⟨hkK93, rfl⟩
   have h := (eL (hK93 _ hkK93))
   refine xB ?_
   refine nT ?_
   refine zs ?_
   refine zg hT hA {} (by cbv) (lb rfl) ?_
   refine nT ?_
   refine zr ?_
   cases soI h
   exact ⟨rfl, rfl, rfl, lb rfl, _, rfl⟩
 ·replace h := cF c3 h
  refine zt rfl (by first | rfl | simp only [c3, zqa, zqb, zqc, zqd]) ?_
  refine zs ?_
  refine zg hT hA {} (by (repeat (cbv; simp only [c3])); first | done | cbv) (lb rfl) ?_
  refine nT ?_
  refine zr ?_
  refine rT ?_
  cases soI h
  exact ⟨rfl, rfl, rfl, lb rfl, _, rfl⟩

theorem C5w {A : Ar} (hA : A = Ar.std) {x1 : Int} {x2 : Int} {x3 : List D} {x4 : List D} {x5 : List D} {x6 : List D} {x7 : List D} {x8 : Int} {x9 : Int} {v40 : Bool} (h : C5 A x1 x2 x3 x4 x5 x6 x7 x8 x9 = some v40) : ACall Try.prog 5 [(.d (.agg [(.int .i64 x1), (.int .i64 x2), (.list 1 x3), (.list 1 x4), (.list 1 x5), (.list 1 x6)])), (.d (.list 1 x7)), (.d (.agg [(.int .i64 x8), (.int .i64 x9)]))] [] (.d (.bool v40)) [] := by
 unfold C5 at h
 refine ACall.enter hT (fn := Try.f5) Try.func5 rfl (by decide) (by simp [Try.f5]) rfl rfl rfl rfl (lb rfl) ?_
 refine zs ?_
 refine zg hT hA {} (by cbv) (lb rfl) ?_
 refine nT ?_
 refine zs ?_
 refine zs ?_
 obtain ⟨v13, hvK14, h⟩ := bindS h
 refine AWp.cutN [1, 3, 5, 21] [] 0 (lb rfl) (fun τ => τ = { env := [(1, (.d (.list 1 x7))), (3, (.lbox [(.d (.int .i64 x1)), (.d (.int .i64 x2)), (.d (.list 1 x3)), (.d (.list 1 x4)), (.d (.list 1 x5)), (.d (.list 1 x6))])), (5, (.lbox [(.d (.int .i64 x8)), (.d (.int .i64 x9))])), (21, (.d (.bool v13)))], heap := [], n := 82 }) ?_ ?_
 ·skip
  refine zn ?_
  obtain ⟨r11, e10, hvK14⟩ := bindS hvK14
  refine AOps.cc hT hA {} (by cbv) (lb rfl) (C9w hA e10) rfl (.inl rfl) rfl rfl rfl (lb rfl) rfl rfl ?_
  rcases tf r11 with c12 | c12
  ·replace hvK14 := cT c12 hvK14
   refine AOps.cd hT hA {} (by (repeat (cbv; simp only [c12])); first | done | cbv) (lb rfl) ?_
   cases soI hvK14
   exact oNi ⟨rfl, (by first | (cbv; done) | ((repeat (cbv; simp only [c12])); first | done | cbv))⟩
  ·replace hvK14 := cF c12 hvK14
   refine AOps.cd hT hA {} (by (repeat (cbv; simp only [c12])); first | done | cbv) (lb rfl) ?_
   cases soI hvK14
   exact oNi ⟨rfl, (by first | (cbv; done) | ((repeat (cbv; simp only [c12])); first | done | cbv))⟩
 ·rintro _ rfl
  refine nT ?_
  rcases tf v13 with c15 | c15
  ·replace h := cT c15 h
   refine zt rfl (by first | rfl | simp only [c15, zqa, zqb, zqc, zqd]) ?_
   refine zs ?_
   refine zn ?_
   obtain ⟨r17, e16, h⟩ := bindS h
   refine AOps.cc hT hA { tk := [22] } (by (repeat (cbv; simp only [c15])); first | done | cbv) (lb rfl) (C10w hA e16) rfl (.inl rfl) rfl rfl rfl (lb rfl) rfl rfl ?_
   refine AOps.cd hT hA { tk := [22] } (by (repeat (cbv; simp only [c15])); first | done | cbv) (lb rfl) ?_
   refine nT ?_
   refine zr ?_
   refine rT ?_
   cases soI h
   exact ⟨rfl, rfl, rfl, lb rfl, _, rfl⟩
  ·replace h := cF c15 h
   refine zf rfl (by first | rfl | simp only [c15, zqa, zqb, zqc, zqd]) ?_
   refine zk ?_
   refine nT ?_
   refine zs ?_
   refine zn ?_
   obtain ⟨⟨r19, r20⟩, e18, h⟩ := bindS h
   refine AOps.cc hT hA {} (by (repeat (cbv; simp only [c15])); first | done | cbv) (lb rfl) (C27w hA e18) rfl (.inl rfl) rfl rfl rfl (lb rfl) rfl rfl ?_
   refine AOps.cd hT hA {} (by (repeat (cbv; simp only [c15])); first | done | cbv) (lb rfl) ?_
   refine nT ?_
   refine zs ?_
   refine zn ?_
   obtain ⟨⟨r22, r23⟩, e21, h⟩ := bindS h
   refine AOps.cc hT hA {} (by (repeat (cbv; simp only [c15])); first | done | cbv) (lb rfl) (C28w hA e21) rfl (.inl rfl) rfl rfl rfl (lb rfl) rfl rfl ?_
   refine AOps.cd hT hA {} (by (repeat (cbv; simp only [c15])); first | done | cbv) (lb rfl) ?_
   refine nT ?_
   refine zs ?_
   refine zn ?_
   obtain ⟨⟨r25, r26⟩, e24, h⟩ := bindS h
   refine AOps.cc hT hA {} (by (repeat (cbv; simp only [c15])); first | done | cbv) (lb rfl) (C29w hA e24) rfl (.inl rfl) rfl rfl rfl (lb rfl) rfl rfl ?_
   refine AOps.cd hT hA {} (by (repeat (cbv; simp only [c15])); first | done | cbv) (lb rfl) ?_
   refine nT ?_
   refine zs ?_
   refine zn ?_
   obtain ⟨⟨r28, r29⟩, e27, h⟩ := bindS h
   refine AOps.cc hT hA {} (by (repeat (cbv; simp only [c15])); first | done | cbv) (lb rfl) (C30w hA e27) rfl (.inl rfl) rfl rfl rfl (lb rfl) rfl rfl ?_
   refine AOps.cd hT hA {} (by (repeat (cbv; simp only [c15])); first | done | cbv) (lb rfl) ?_
   refine nT ?_
   refine zs ?_
   obtain ⟨v38, hvK39, h⟩ := bindS h
   refine AWp.cutN [6] [] 0 (lb rfl) (fun τ => τ = { env := [(6, (.d (.bool v38)))], heap := [], n := 82 }) ?_ ?_
   ·skip
    refine zn ?_
    rcases tf (A.beq r19 r22) with c30 | c30
    ·replace hvK39 := cT c30 hvK39
     rcases tf (A.zeq r20 r23) with c31 | c31
     ·replace hvK39 := cT c31 hvK39
      obtain ⟨r33, e32, hvK39⟩ := bindS hvK39
      refine AOps.cc hT hA { tk := [81] } (by (repeat (cbv; simp only [c15, c30, c31])); first | done | cbv) (lb rfl) (C31w hA e32) rfl (.inl rfl) rfl rfl rfl (lb rfl) rfl rfl ?_
      rcases tf r33 with c34 | c34
      ·replace hvK39 := cT c34 hvK39
       rcases tf (A.zeq r26 r29) with c35 | c35
       ·replace hvK39 := cT c35 hvK39
        obtain ⟨r37, e36, hvK39⟩ := bindS hvK39
        refine AOps.cc hT hA { tk := [81] } (by (repeat (cbv; simp only [c15, c30, c31, c34, c35])); first | done | cbv) (lb rfl) (C10w hA e36) rfl (.inl rfl) rfl rfl rfl (lb rfl) rfl rfl ?_
        refine AOps.cd hT hA { tk := [81] } (by (repeat (cbv; simp only [c15, c30, c31, c34, c35])); first | done | cbv) (lb rfl) ?_
        cases soI hvK39
        exact oNi ⟨rfl, (by first | (cbv; done) | ((repeat (cbv; simp only [c15, c30, c31, c34, c35])); first | done | cbv))⟩
       ·replace hvK39 := cF c35 hvK39
        refine AOps.cd hT hA { tk := [81] } (by (repeat (cbv; simp only [c15, c30, c31, c34, c35])); first | done | cbv) (lb rfl) ?_
        cases soI hvK39
        exact oNi ⟨rfl, (by first | (cbv; done) | ((repeat (cbv; simp only [c15, c30, c31, c34, c35])); first | done | cbv))⟩
      ·replace hvK39 := cF c34 hvK39
       refine AOps.cd hT hA { tk := [81] } (by (repeat (cbv; simp only [c15, c30, c31, c34])); first | done | cbv) (lb rfl) ?_
       cases soI hvK39
       exact oNi ⟨rfl, (by first | (cbv; done) | ((repeat (cbv; simp only [c15, c30, c31, c34])); first | done | cbv))⟩
     ·replace hvK39 := cF c31 hvK39
      refine AOps.cd hT hA { tk := [81] } (by (repeat (cbv; simp only [c15, c30, c31])); first | done | cbv) (lb rfl) ?_
      cases soI hvK39
      exact oNi ⟨rfl, (by first | (cbv; done) | ((repeat (cbv; simp only [c15, c30, c31])); first | done | cbv))⟩
    ·replace hvK39 := cF c30 hvK39
     refine AOps.cd hT hA { tk := [81] } (by (repeat (cbv; simp only [c15, c30])); first | done | cbv) (lb rfl) ?_
     cases soI hvK39
     exact oNi ⟨rfl, (by first | (cbv; done) | ((repeat (cbv; simp only [c15, c30])); first | done | cbv))⟩
   ·rintro _ rfl
    refine nT ?_
    refine zr ?_
    cases soI h
    exact ⟨rfl, rfl, rfl, lb rfl, _, rfl⟩
end Go.Am
