/- Own text: Genw1. -/
import Derived.Test.YtkjeamngjnfpkaaGenw0
set_option maxRecDepth 100000
set_option maxHeartbeats 2000000
set_option linter.unusedVariables false
set_option linter.unusedSimpArgs false
namespace Go.Am
open Go Go.Proofs
theorem C104w {A : Ar} (hA : A = Ar.std) {x1 x2 x3 x4 v161 v162 : List D} {v163 v164 v165 v166 v167 v168 v169 v170 v171 v172 v173 v174 v175 v176 v177 v178 v179 v180 : Int} {v181 v182 : List D} {v183 : Bool} (h : C104 A x1 x2 x3 x4 = some (v161, v162, v163, v164, v165, v166, v167, v168, v169, v170, v171, v172, v173, v174, v175, v176, v177, v178, v179, v180, v181, v182, v183)) : ACall Try.prog 104 [(zl 1 x1), (zl 1 x2), (zl 1 x3), (zl 1 x4)] [] (.tuple [(.d (.agg [(.list 1 v161), (.list 1 v162), (.int .i64 v163), (.int .i64 v164), (.int .i64 v165), (.int .i64 v166), (.int .i64 v167), (.int .i64 v168), (.int .i64 v169), (.int .i64 v170), (.int .i64 v171), (.int .i64 v172), (.int .i64 v173), (.int .i64 v174), (.int .i64 v175), (.int .i64 v176), (.int .i64 v177), (.int .i64 v178), (.int .i64 v179), (.int .i64 v180), (.list 6 v181), (.list 1 v182)])), (.d (.bool v183))]) [] := by
 unfold C104 at h
 refine ACall.enter hT (fn := Try.f104) Try.func104 rfl (by decide) (by simp [Try.f104]) rfl rfl rfl rfl (lb rfl) ?_
 refine zs ?_
 refine zg hT hA {} (by cbv) (lb rfl) ?_
 refine nT (zs (zn ?_))
 obtain ⟨⟨r6, r7⟩, e5, h⟩ := bindS h
 refine AOps.cc hT hA { tk := [15], esc := [10] } (by cbv) (lb rfl) (C69w hA e5) rfl (.inl rfl) rfl rfl rfl (lb rfl) rfl rfl ?_
 refine AOps.cd hT hA { tk := [15], esc := [10] } (by cbv) (lb rfl) ?_
 refine nT (zs (zs ?_))
 refine zg hT hA {} (by cbv) (lb rfl) ?_
 refine nT ?_
 rcases tf (A.zlt 12 (A.len x3)) with c8 | c8
 ·replace h := cT c8 h
  refine zt rfl (by first | rfl | simp only [c8, zqa, zqb, zqc, zqd]) ?_
  refine zs ?_
  refine AWp.weak (Wk.freezeG 6 20 rfl rfl rfl) ?_
  refine AWp.weak (Wk.freezeG 6 21 rfl rfl rfl) ?_
  refine zg hT hA { tk := [19] } (by (repeat (cbv; simp only [c8])); try cbv) (lb rfl) ?_
  refine nT ?_
  refine zr ?_
  refine rT ?_
  cases soI h
  exact ⟨rfl, rfl, rfl, lb rfl, _, rfl⟩
 ·replace h := cF c8 h
  refine zf rfl (by first | rfl | simp only [c8, zqa, zqb, zqc, zqd]) ?_
  refine zk ?_
  refine nT (zs (zs ?_))
  refine zg hT hA {} (by (repeat (cbv; simp only [c8])); try cbv) (lb rfl) ?_
  refine nT (zb ?_)
  refine AWp.weak (Wk.ren [some 6, some 0, some 1, some 2, some 3, some 4, some 5] [3, 8, 10, 20, 21, 22] rfl rfl) ?_
  obtain ⟨xK160, hxK160, K160, hK160, hkK160⟩ := bindK h
  refine AWp.cutXW 0 (fun τ => ∃ v94 v95 v96 v97 v98 v99 v100 v101 v102 v103 v104 v105 v106 v107 v108 v109 v110 v111 v112 v113 v114 v115, K160 (.inl (v94, v95, v96, v97, v98, v99, v100, v101, v102, v103, v104, v105, v106, v107, v108, v109, v110, v111, v112, v113, v114, v115)) = some (v161, v162, v163, v164, v165, v166, v167, v168, v169, v170, v171, v172, v173, v174, v175, v176, v177, v178, v179, v180, v181, v182, v183) ∧ τ = { env := [(8, (.lbox [(.own 1 []), (.own 1 []), (zi 0), (zi 0), (zi 0), (zi 0), (zi 0), (zi 0), (zi 0), (zi 0), (zi 0), (zi 0), (zi 0), (zi 0), (zi 0), (zi 0), (zi 0), (zi 0), (zi 0), (zi 0), (.own 6 []), (.own 1 [])])), (10, (.ptr 0 0))], heap := [(.cells [(zl 1 v94), (zl 1 v95), (zi v96), (zi v97), (zi v98), (zi v99), (zi v100), (zi v101), (zi v102), (zi v103), (zi v104), (zi v105), (zi v106), (zi v107), (zi v108), (zi v109), (zi v110), (zi v111), (zi v112), (zi v113), (.gref 1 6), (.gref 4 1)]), (.gro 6 v114), .dead, .dead, (.gro 1 v115), .dead, .dead], n := 35 }) ?_ ?_
  ·skip
   refine AWp.iterW hxK160 (fun (v40, v41, v42, v43, v44, v45, v46, v47, v48, v49, v50, v51, v52, v53, v54, v55, v56, v57, v58, v59, v60, v61, v62) => { env := [(3, (zl 1 x4)), (8, (.lbox [(.own 1 []), (.own 1 []), (zi 0), (zi 0), (zi 0), (zi 0), (zi 0), (zi 0), (zi 0), (zi 0), (zi 0), (zi 0), (zi 0), (zi 0), (zi 0), (zi 0), (zi 0), (zi 0), (zi 0), (zi 0), (.own 6 []), (.own 1 [])])), (10, (.ptr 0 0)), (20, (zl 1 x3)), (21, (.d (.int .i64 (A.len x3)))), (22, (zi v40))], heap := [(.cells [(zl 1 v41), (zl 1 v42), (zi v43), (zi v44), (zi v45), (zi v46), (zi v47), (zi v48), (zi v49), (zi v50), (zi v51), (zi v52), (zi v53), (zi v54), (zi v55), (zi v56), (zi v57), (zi v58), (zi v59), (zi v60), (.gref 1 6), (.gref 4 1)]), (.gro 6 v61), .dead, .dead, (.gro 1 v62), .dead, .dead], n := 35 }) ⟨_, Wk.ren [some 0, some 1, some 2, some 3, some 4, some 5, some 6] [3, 8, 10, 20, 21, 22] rfl (by first | (cbv; done) | ((repeat (cbv; simp only [c8])); try cbv)), rfl⟩ ?_
   rintro ⟨v40, v41, v42, v43, v44, v45, v46, v47, v48, v49, v50, v51, v52, v53, v54, v55, v56, v57, v58, v59, v60, v61, v62⟩ eK160 hsK160
   dsimp only [C104L0] at hsK160
   refine zs ?_
   refine zg hT hA {} (by cbv) (lb rfl) ?_
   refine nT (zs ?_)
   rcases tf (A.zlt v40 (A.len x3)) with c63 | c63
   ·replace hsK160 := cT c63 hsK160
    refine zt rfl (by first | rfl | simp only [c63, zqa, zqb, zqc, zqd]) ?_
    refine zk ?_
    refine nT (zs (zb (zs ?_)))
    obtain ⟨a64, e65, hsK160⟩ := bindS hsK160
    obtain ⟨f66, f67⟩ := gtI e65
    refine zg hT hA {} (by (repeat (cbv; simp only [c63, f66, f67])); try cbv) (lb rfl) ?_
    refine nT (zs (zs (zn ?_)))
    obtain ⟨r69, e68, hsK160⟩ := bindS hsK160
    refine AOps.cc hT hA {} (by (repeat (cbv; simp only [c63])); try cbv) (lb rfl) (C70w hA e68) rfl (.inl rfl) rfl rfl rfl (lb rfl) rfl rfl ?_
    refine AOps.cd hT hA {} (by (repeat (cbv; simp only [c63])); try cbv) (lb rfl) ?_
    refine nT ?_
    rcases tf r69 with c70 | c70
    ·replace hsK160 := cT c70 hsK160
     refine zf rfl (by first | rfl | simp only [c63, c70, zqa, zqb, zqc, zqd]) ?_
     refine zk ?_
     refine nT (zn ?_)
     obtain ⟨⟨r72, r73, r74, r75, r76, r77, r78, r79, r80, r81, r82, r83, r84, r85, r86, r87, r88, r89, r90, r91, r92, r93⟩, e71, hsK160⟩ := bindS hsK160
     refine AOps.cc hT hA {} (by (repeat (cbv; simp only [c63, c70])); try cbv) (lb rfl) (C71w hA e71) rfl (.inl rfl) rfl rfl rfl (lb rfl) rfl rfl ?_
     refine AOps.cd hT hA {} (by (repeat (cbv; simp only [c63, c70])); try cbv) (lb rfl) ?_
     refine nB ?_
     refine nT ?_
     refine zg hT hA {} (by (repeat (cbv; simp only [c63, c70])); try cbv) (lb rfl) ?_
     exact nT ⟨_, (soI hsK160).symm, _, (Wk.ren [some 0, some 7, some 8, some 9, some 10, some 11, some 12] [3, 8, 10, 20, 21, 22] rfl (by first | (cbv; done) | ((repeat (cbv; simp only [c63, c70])); try cbv))), rfl⟩
    ·replace hsK160 := cF c70 hsK160
     refine zt rfl (by first | rfl | simp only [c63, c70, zqa, zqb, zqc, zqd]) ?_
     refine zs ?_
     refine AWp.weak (Wk.freezeG 0 20 rfl rfl rfl) ?_
     refine AWp.weak (Wk.freezeG 0 21 rfl rfl rfl) ?_
     refine zg hT hA { tk := [29] } (by (repeat (cbv; simp only [c63, c70])); try cbv) (lb rfl) ?_
     refine nT ?_
     refine zr ?_
     refine rT ?_
     refine rB ?_
     refine rT ?_
     refine rT ?_
     refine exL hsK160 fun hx => ?_
     subst hx
     refine oxWR ?_
     replace hkK160 := (eR (hK160 _ hkK160))
     refine rB ?_
     refine rT ?_
     cases soI hkK160
     exact ⟨rfl, rfl, rfl, lb rfl, _, rfl⟩
   ·replace hsK160 := cF c63 hsK160
    refine zf rfl (by first | rfl | simp only [c63, zqa, zqb, zqc, zqd]) ?_
    refine AWp.exit ?_
    refine xT ?_
    refine xT ?_
    refine exL hsK160 fun hx => ?_
    subst hx
    exact oxWI ⟨_, (Wk.ren [some 0, some 1, some 2, some 3, some 4, some 5, some 6] [8, 10] rfl (by first | (cbv; done) | ((repeat (cbv; simp only [c63])); try cbv))), _, _, _, _, _, _, _, _, _, _, _, _, _, _, _, _, _, _, _, _, _, _, hkK160, rfl⟩
  ·rintro _ ⟨v94, v95, v96, v97, v98, v99, v100, v101, v102, v103, v104, v105, v106, v107, v108, v109, v110, v111, v112, v113, v114, v115, hkK160, rfl⟩
   have h := (eL (hK160 _ hkK160))
   refine xB ?_
   refine nT (zs ?_)
   refine AWp.weak (Wk.freezeG 0 20 rfl rfl rfl) ?_
   refine AWp.weak (Wk.freezeG 0 21 rfl rfl rfl) ?_
   refine zg hT hA { tk := [34] } (by cbv) (lb rfl) ?_
   refine nT ?_
   refine zr ?_
   cases soI h
   exact ⟨rfl, rfl, rfl, lb rfl, _, rfl⟩

theorem C45w {A : Ar} (hA : A = Ar.std) {x1 x2 : List D} {x3 x4 x5 x6 x7 x8 x9 x10 x11 x12 x13 x14 x15 x16 x17 x18 x19 x20 : Int} {x21 x22 x23 v24 : List D} (h : C45 A x1 x2 x3 x4 x5 x6 x7 x8 x9 x10 x11 x12 x13 x14 x15 x16 x17 x18 x19 x20 x21 x22 x23 = some v24) : ACall Try.prog 45 [(.d (.agg [(.list 1 x1), (.list 1 x2), (.int .i64 x3), (.int .i64 x4), (.int .i64 x5), (.int .i64 x6), (.int .i64 x7), (.int .i64 x8), (.int .i64 x9), (.int .i64 x10), (.int .i64 x11), (.int .i64 x12), (.int .i64 x13), (.int .i64 x14), (.int .i64 x15), (.int .i64 x16), (.int .i64 x17), (.int .i64 x18), (.int .i64 x19), (.int .i64 x20), (.list 6 x21), (.list 1 x22)])), (.ptr 0 0)] [(.cells [(.own 6 x23)])] (.own 1 []) [(.cells [(zl 6 v24)])] := by
 unfold C45 at h
 refine ACall.enter hT (fn := Try.f45) Try.func45 rfl (by decide) (by simp [Try.f45]) rfl rfl rfl rfl (lb rfl) ?_
 refine zs ?_
 refine zg hT hA {} (by cbv) (lb rfl) ?_
 refine nT (zs ?_)
 refine zg hT hA { tk := [5] } (by cbv) (lb rfl) ?_
 refine nT (zs ?_)
 refine zg hT hA {} (by cbv) (lb rfl) ?_
 refine nT ?_
 refine zr ?_
 cases soI h
 exact ⟨rfl, rfl, rfl, lb rfl, _, rfl⟩

theorem C44wa {A : Ar} (hA : A = Ar.std) {x1 x2 x3 x4 v35 : List D} (h : C44 A x1 x2 x3 x4 = some (.inl v35)) : ACall Try.prog 44 [(zl 1 x1), (zl 1 x2), (zl 1 x3), (.func 45 [] [(.ptr 0 0)])] [(.cells [(.own 6 x4)])] (.tuple [(.d (.list 1 [])), (zi 0)]) [(.cells [(zl 6 v35)])] := by
 unfold C44 at h
 refine ACall.enter hT (fn := Try.f44) Try.func44 rfl (by decide) (by simp [Try.f44]) rfl rfl rfl rfl (lb rfl) ?_
 refine zs ?_
 refine zg hT hA {} (by cbv) (lb rfl) ?_
 refine nT (zs (zs (zn ?_)))
 obtain ⟨r6, e5, h⟩ := bindS h
 refine AOps.cc hT hA {} (by cbv) (lb rfl) (C89w hA e5) rfl (.inr rfl) rfl rfl rfl (lb rfl) rfl rfl ?_
 refine AOps.cd hT hA {} (by cbv) (lb rfl) ?_
 refine nT (zs ?_)
 refine zg hT hA {} (by cbv) (lb rfl) ?_
 refine nT ?_
 rcases tf (A.zeq r6 0) with c7 | c7
 ·replace h := cT c7 h
  refine zf rfl (by first | rfl | simp only [c7, zqa, zqb, zqc, zqd]) ?_
  refine zk ?_
  refine nT (zs (zn ?_))
  obtain ⟨⟨r9, r10, r11, r12, r13, r14, r15, r16, r17, r18, r19, r20, r21, r22, r23, r24, r25, r26, r27, r28, r29, r30, r31⟩, e8, h⟩ := bindS h
  refine AOps.cc hT hA { tk := [24] } (by (repeat (cbv; simp only [c7])); try cbv) (lb rfl) (C104w hA e8) rfl (.inr rfl) rfl rfl rfl (lb rfl) rfl rfl ?_
  refine AOps.cd hT hA { tk := [24] } (by (repeat (cbv; simp only [c7])); try cbv) (lb rfl) ?_
  refine nT (zs (zs ?_))
  refine zg hT hA {} (by (repeat (cbv; simp only [c7])); try cbv) (lb rfl) ?_
  refine nT ?_
  rcases tf r31 with c32 | c32
  ·replace h := cT c32 h
   refine zf rfl (by first | rfl | simp only [c7, c32, zqa, zqb, zqc, zqd]) ?_
   refine zk ?_
   refine nT (zs (zn ?_))
   obtain ⟨r34, e33, h⟩ := bindS h
   refine AOps.cc hT hA {} (by (repeat (cbv; simp only [c7, c32])); try cbv) (lb rfl) (C45w hA e33) rfl (.inl rfl) rfl rfl rfl (lb rfl) rfl rfl ?_
   refine AOps.cd hT hA {} (by (repeat (cbv; simp only [c7, c32])); try cbv) (lb rfl) ?_
   refine nT ?_
   refine zr ?_
   cases soI h
   exact ⟨rfl, rfl, rfl, lb rfl, _, rfl⟩
  ·replace h := cF c32 h
   refine zt rfl (by first | rfl | simp only [c7, c32, zqa, zqb, zqc, zqd]) ?_
   refine zs ?_
   refine zg hT hA {} (by (repeat (cbv; simp only [c7, c32])); try cbv) (lb rfl) ?_
   refine nT ?_
   refine zr ?_
   refine rT ?_
   cases soI h
 ·replace h := cF c7 h
  refine zt rfl (by first | rfl | simp only [c7, zqa, zqb, zqc, zqd]) ?_
  refine zs ?_
  refine zg hT hA {} (by (repeat (cbv; simp only [c7])); try cbv) (lb rfl) ?_
  refine nT ?_
  refine zr ?_
  refine rT ?_
  cases soI h

theorem C44wb {A : Ar} (hA : A = Ar.std) {x1 x2 x3 x4 : List D} {v36 : Int} (h : C44 A x1 x2 x3 x4 = some (.inr v36)) : ACall Try.prog 44 [(zl 1 x1), (zl 1 x2), (zl 1 x3), (.func 45 [] [(.ptr 0 0)])] [(.cells [(.own 6 x4)])] (.tuple [(.d (.list 1 [])), (zi v36)]) [(.cells [(.own 6 x4)])] := by
 unfold C44 at h
 refine ACall.enter hT (fn := Try.f44) Try.func44 rfl (by decide) (by simp [Try.f44]) rfl rfl rfl rfl (lb rfl) ?_
 refine zs ?_
 refine zg hT hA {} (by cbv) (lb rfl) ?_
 refine nT (zs (zs (zn ?_)))
 obtain ⟨r6, e5, h⟩ := bindS h
 refine AOps.cc hT hA {} (by cbv) (lb rfl) (C89w hA e5) rfl (.inr rfl) rfl rfl rfl (lb rfl) rfl rfl ?_
 refine AOps.cd hT hA {} (by cbv) (lb rfl) ?_
 refine nT (zs ?_)
 refine zg hT hA {} (by cbv) (lb rfl) ?_
 refine nT ?_
 rcases tf (A.zeq r6 0) with c7 | c7
 ·replace h := cT c7 h
  refine zf rfl (by first | rfl | simp only [c7, zqa, zqb, zqc, zqd]) ?_
  refine zk ?_
  refine nT (zs (zn ?_))
  obtain ⟨⟨r9, r10, r11, r12, r13, r14, r15, r16, r17, r18, r19, r20, r21, r22, r23, r24, r25, r26, r27, r28, r29, r30, r31⟩, e8, h⟩ := bindS h
  refine AOps.cc hT hA { tk := [24] } (by (repeat (cbv; simp only [c7])); try cbv) (lb rfl) (C104w hA e8) rfl (.inr rfl) rfl rfl rfl (lb rfl) rfl rfl ?_
  refine AOps.cd hT hA { tk := [24] } (by (repeat (cbv; simp only [c7])); try cbv) (lb rfl) ?_
  refine nT (zs (zs ?_))
  refine zg hT hA {} (by (repeat (cbv; simp only [c7])); try cbv) (lb rfl) ?_
  refine nT ?_
  rcases tf r31 with c32 | c32
  ·replace h := cT c32 h
   refine zf rfl (by first | rfl | simp only [c7, c32, zqa, zqb, zqc, zqd]) ?_
   refine zk ?_
   refine nT (zs (zn ?_))
   obtain ⟨r34, e33, h⟩ := bindS h
   refine AOps.cc hT hA {} (by (repeat (cbv; simp only [c7, c32])); try cbv) (lb rfl) (C45w hA e33) rfl (.inl rfl) rfl rfl rfl (lb rfl) rfl rfl ?_
   refine AOps.cd hT hA {} (by (repeat (cbv; simp only [c7, c32])); try cbv) (lb rfl) ?_
   refine nT ?_
   refine zr ?_
   cases soI h
  ·replace h := cF c32 h
   refine zt rfl (by first | rfl | simp only [c7, c32, zqa, zqb, zqc, zqd]) ?_
   refine zs ?_
   refine zg hT hA {} (by (repeat (cbv; simp only [c7, c32])); try cbv) (lb rfl) ?_
   refine nT ?_
   refine zr ?_
   refine rT ?_
   cases soI h
   exact ⟨rfl, rfl, rfl, lb rfl, _, rfl⟩
 ·replace h := cF c7 h
  refine zt rfl (by first | rfl | simp only [c7, zqa, zqb, zqc, zqd]) ?_
  refine zs ?_
  refine zg hT hA {} (by (repeat (cbv; simp only [c7])); try cbv) (lb rfl) ?_
  refine nT ?_
  refine zr ?_
  refine rT ?_
  cases soI h
  exact ⟨rfl, rfl, rfl, lb rfl, _, rfl⟩

theorem C13w {A : Ar} (hA : A = Ar.std) {x1 x2 x3 v11 : List D} {v12 : Int} (h : C13 A x1 x2 x3 = some (v11, v12)) : ACall Try.prog 13 [(zl 1 x1), (zl 1 x2), (zl 1 x3)] [] (.tuple [(zl 6 v11), (zi v12)]) [] := by
 unfold C13 at h
 refine ACall.enter hT (fn := Try.f13) Try.func13 rfl (by decide) (by simp [Try.f13]) rfl rfl rfl rfl (lb rfl) ?_
 refine zs ?_
 refine zg hT hA {} (by cbv) (lb rfl) ?_
 refine nT (zs ?_)
 refine zg hT hA { esc := [8] } (by cbv) (lb rfl) ?_
 refine nT (zs ?_)
 obtain ⟨⟨v8, v9⟩, hvK10, h⟩ := bindS h
 refine AWp.cutW (fun τ => τ = { env := [(8, (.ptr 0 0)), (10, (zi v8))], heap := [(.cells [(zl 6 v9)])], n := 21 }) ?_ ?_
 ·skip
  refine zn ?_
  obtain ⟨q7, e4, hvK10⟩ := bindS hvK10
  rcases q7 with r5 | r6
  ·replace hvK10 := (eL hvK10)
   refine AOps.cc hT hA {} (by cbv) (lb rfl) (C44wa hA e4) rfl (.inl rfl) rfl rfl rfl (lb rfl) rfl rfl ?_
   refine AOps.cd hT hA {} (by cbv) (lb rfl) ?_
   cases soI hvK10
   exact oWi ⟨_, (Wk.ren [some 0] [8, 10] rfl (by cbv)), rfl⟩
  ·replace hvK10 := (eR hvK10)
   refine AOps.cc hT hA {} (by cbv) (lb rfl) (C44wb hA e4) rfl (.inl rfl) rfl rfl rfl (lb rfl) rfl rfl ?_
   refine AOps.cd hT hA {} (by cbv) (lb rfl) ?_
   cases soI hvK10
   exact oWi ⟨_, (Wk.trans (Wk.softC 0 0 rfl rfl rfl) (Wk.ren [some 0] [8, 10] rfl (by cbv))), rfl⟩
 ·rintro _ rfl
  refine nT (zs ?_)
  refine zg hT hA {} (by cbv) (lb rfl) ?_
  refine nT ?_
  refine zr ?_
  cases soI h
  exact ⟨rfl, rfl, rfl, lb rfl, _, rfl⟩

theorem C10w {A : Ar} (hA : A = Ar.std) {v25 : Bool} (h : C10 A = some v25) : ACall Try.prog 10 [] [] (.d (.bool v25)) [] := by
 unfold C10 at h
 refine ACall.enter hT (fn := Try.f10) Try.func10 rfl (by decide) (by simp [Try.f10]) rfl rfl rfl rfl (lb rfl) ?_
 refine zs ?_
 refine zg hT hA {} (by cbv) (lb rfl) ?_
 refine nT (zs ?_)
 refine zg hT hA {} (by cbv) (lb rfl) ?_
 refine nT (zs (zn ?_))
 obtain ⟨⟨r2, r3⟩, e1, h⟩ := bindS h
 refine AOps.cc hT hA {} (by cbv) (lb rfl) (C13w hA e1) rfl (.inl rfl) rfl rfl rfl (lb rfl) rfl rfl ?_
 refine AOps.cd hT hA {} (by cbv) (lb rfl) ?_
 refine nT (zs ?_)
 obtain ⟨v23, hvK24, h⟩ := bindS h
 refine AWp.cutN [0] [] 0 (lb rfl) (fun τ => τ = { env := [(0, (.d (.bool v23)))], heap := [], n := 40 }) ?_ ?_
 ·skip
  rcases tf (A.zeq r3 0) with c4 | c4
  ·replace hvK24 := cT c4 hvK24
   rcases tf (A.zeq (A.len r2) 2) with c5 | c5
   ·replace hvK24 := cT c5 hvK24
    obtain ⟨⟨a6, a7, a8, a9, a10, a11⟩, e12, hvK24⟩ := bindS hvK24
    have f13 := gcI e12
    rcases tf (A.deq [(.int .i64 a6), (.int .i64 a7), (.int .i64 a8), (.int .i64 a9), (.int .i64 a10), (.int .i64 a11)] [(.int .i64 0), (.int .i64 0), (.int .i64 0), (.int .i64 0), (.int .i64 1), (.int .i64 12)]) with c14 | c14
    ·replace hvK24 := cT c14 hvK24
     obtain ⟨⟨a15, a16, a17, a18, a19, a20⟩, e21, hvK24⟩ := bindS hvK24
     have f22 := gcI e21
     refine zg hT hA { tk := [39] } (by (repeat (cbv; simp only [c4, c5, c14, f13, f22])); try cbv) (lb rfl) ?_
     cases soI hvK24
     exact oNi ⟨rfl, (by first | (cbv; done) | ((repeat (cbv; simp only [c4, c5, c14])); try cbv))⟩
    ·replace hvK24 := cF c14 hvK24
     refine zg hT hA { tk := [39] } (by (repeat (cbv; simp only [c4, c5, c14, f13])); try cbv) (lb rfl) ?_
     cases soI hvK24
     exact oNi ⟨rfl, (by first | (cbv; done) | ((repeat (cbv; simp only [c4, c5, c14])); try cbv))⟩
   ·replace hvK24 := cF c5 hvK24
    refine zg hT hA { tk := [39] } (by (repeat (cbv; simp only [c4, c5])); try cbv) (lb rfl) ?_
    cases soI hvK24
    exact oNi ⟨rfl, (by first | (cbv; done) | ((repeat (cbv; simp only [c4, c5])); try cbv))⟩
  ·replace hvK24 := cF c4 hvK24
   refine zg hT hA { tk := [39] } (by (repeat (cbv; simp only [c4])); try cbv) (lb rfl) ?_
   cases soI hvK24
   exact oNi ⟨rfl, (by first | (cbv; done) | ((repeat (cbv; simp only [c4])); try cbv))⟩
 ·rintro _ rfl
  refine nT ?_
  refine zr ?_
  cases soI h
  exact ⟨rfl, rfl, rfl, lb rfl, _, rfl⟩

theorem C51w {A : Ar} (hA : A = Ar.std) {x1 x2 x3 : Int} {v7 : Bool} (h : C51 A x1 x2 x3 = some v7) : ACall Try.prog 51 [(zi x1), (zi x2), (zi x3)] [] (.d (.bool v7)) [] := by
 unfold C51 at h
 refine ACall.enter hT (fn := Try.f51) Try.func51 rfl (by decide) (by simp [Try.f51]) rfl rfl rfl rfl (lb rfl) ?_
 refine zs ?_
 refine zg hT hA {} (by cbv) (lb rfl) ?_
 refine nT (zs ?_)
 obtain ⟨v5, hvK6, h⟩ := bindS h
 refine AWp.cutN [6] [] 0 (lb rfl) (fun τ => τ = { env := [(6, (.d (.bool v5)))], heap := [], n := 15 }) ?_ ?_
 ·skip
  rcases tf (A.zle x1 x2) with c4 | c4
  ·replace hvK6 := cT c4 hvK6
   refine zg hT hA { tk := [14] } (by (repeat (cbv; simp only [c4])); try cbv) (lb rfl) ?_
   cases soI hvK6
   exact oNi ⟨rfl, (by first | (cbv; done) | ((repeat (cbv; simp only [c4])); try cbv))⟩
  ·replace hvK6 := cF c4 hvK6
   refine zg hT hA { tk := [14] } (by (repeat (cbv; simp only [c4])); try cbv) (lb rfl) ?_
   cases soI hvK6
   exact oNi ⟨rfl, (by first | (cbv; done) | ((repeat (cbv; simp only [c4])); try cbv))⟩
 ·rintro _ rfl
  refine nT ?_
  refine zr ?_
  cases soI h
  exact ⟨rfl, rfl, rfl, lb rfl, _, rfl⟩

theorem C111w {A : Ar} (hA : A = Ar.std) {x1 : Int} {v4 : Bool} (h : C111 A x1 = some v4) : ACall Try.prog 111 [(zi x1)] [] (.d (.bool v4)) [] := by
 unfold C111 at h
 refine ACall.enter hT (fn := Try.f111) Try.func111 rfl (by decide) (by simp [Try.f111]) rfl rfl rfl rfl (lb rfl) ?_
 refine zs ?_
 refine zg hT hA {} (by cbv) (lb rfl) ?_
 refine nT (zs (zn ?_))
 obtain ⟨r3, e2, h⟩ := bindS h
 refine AOps.cc hT hA { tk := [4] } (by cbv) (lb rfl) (C51w hA e2) rfl (.inl rfl) rfl rfl rfl (lb rfl) rfl rfl ?_
 refine AOps.cd hT hA { tk := [4] } (by cbv) (lb rfl) ?_
 refine nT ?_
 refine zr ?_
 cases soI h
 exact ⟨rfl, rfl, rfl, lb rfl, _, rfl⟩

theorem C82w {A : Ar} (hA : A = Ar.std) {x1 : Int} {v4 : Bool} (h : C82 A x1 = some v4) : ACall Try.prog 82 [(zi x1)] [] (.d (.bool v4)) [] := by
 unfold C82 at h
 refine ACall.enter hT (fn := Try.f82) Try.func82 rfl (by decide) (by simp [Try.f82]) rfl rfl rfl rfl (lb rfl) ?_
 refine zs ?_
 refine zg hT hA {} (by cbv) (lb rfl) ?_
 refine nT (zs (zn ?_))
 obtain ⟨r3, e2, h⟩ := bindS h
 refine AOps.cc hT hA { tk := [4] } (by cbv) (lb rfl) (C51w hA e2) rfl (.inl rfl) rfl rfl rfl (lb rfl) rfl rfl ?_
 refine AOps.cd hT hA { tk := [4] } (by cbv) (lb rfl) ?_
 refine nT ?_
 refine zr ?_
 cases soI h
 exact ⟨rfl, rfl, rfl, lb rfl, _, rfl⟩

theorem C112w {A : Ar} (hA : A = Ar.std) {x1 : Int} {v4 : Bool} (h : C112 A x1 = some v4) : ACall Try.prog 112 [(zi x1)] [] (.d (.bool v4)) [] := by
 unfold C112 at h
 refine ACall.enter hT (fn := Try.f112) Try.func112 rfl (by decide) (by simp [Try.f112]) rfl rfl rfl rfl (lb rfl) ?_
 refine zs ?_
 refine zg hT hA {} (by cbv) (lb rfl) ?_
 refine nT (zs (zn ?_))
 obtain ⟨r3, e2, h⟩ := bindS h
 refine AOps.cc hT hA { tk := [4] } (by cbv) (lb rfl) (C51w hA e2) rfl (.inl rfl) rfl rfl rfl (lb rfl) rfl rfl ?_
 refine AOps.cd hT hA { tk := [4] } (by cbv) (lb rfl) ?_
 refine nT ?_
 refine zr ?_
 cases soI h
 exact ⟨rfl, rfl, rfl, lb rfl, _, rfl⟩

theorem C52w {A : Ar} (hA : A = Ar.std) {x1 x2 x3 x4 x5 : Int} {v71 : Bool} (h : C52 A x1 x2 x3 x4 x5 = some v71) : ACall Try.prog 52 [(.d (.agg [(.int .i64 x1), (.int .i64 x2), (.int .i64 x3), (.int .i64 x4)])), (zi x5)] [] (.d (.bool v71)) [] := by
 unfold C52 at h
 refine ACall.enter hT (fn := Try.f52) Try.func52 rfl (by decide) (by simp [Try.f52]) rfl rfl rfl rfl (lb rfl) ?_
 refine zs ?_
 refine zg hT hA {} (by cbv) (lb rfl) ?_
 refine nT (zs (zs ?_))
 refine zg hT hA {} (by cbv) (lb rfl) ?_
 refine nT (zb (zs ?_))
 refine zg hT hA {} (by cbv) (lb rfl) ?_
 refine nT ?_
 rcases tf (A.zeq x1 1) with c6 | c6
 ·replace h := cT c6 h
  refine zt rfl (by first | rfl | simp only [c6, zqa, zqb, zqc, zqd]) ?_
  refine zs ?_
  obtain ⟨v13, hvK14, h⟩ := bindS h
  refine AWp.cutN [4] [] 0 (lb rfl) (fun τ => τ = { env := [(4, (.d (.bool v13)))], heap := [], n := 114 }) ?_ ?_
  ·skip
   refine zn ?_
   obtain ⟨r8, e7, hvK14⟩ := bindS hvK14
   refine AOps.cc hT hA { tk := [21] } (by (repeat (cbv; simp only [c6])); try cbv) (lb rfl) (C111w hA e7) rfl (.inl rfl) rfl rfl rfl (lb rfl) rfl rfl ?_
   rcases tf r8 with c9 | c9
   ·replace hvK14 := cT c9 hvK14
    obtain ⟨r11, e10, hvK14⟩ := bindS hvK14
    refine AOps.cc hT hA { tk := [21] } (by (repeat (cbv; simp only [c6, c9])); try cbv) (lb rfl) (C82w hA e10) rfl (.inl rfl) rfl rfl rfl (lb rfl) rfl rfl ?_
    rcases tf r11 with c12 | c12
    ·replace hvK14 := cT c12 hvK14
     refine AOps.cd hT hA { tk := [21] } (by (repeat (cbv; simp only [c6, c9, c12])); try cbv) (lb rfl) ?_
     cases soI hvK14
     exact oNi ⟨rfl, (by first | (cbv; done) | ((repeat (cbv; simp only [c6, c9, c12])); try cbv))⟩
    ·replace hvK14 := cF c12 hvK14
     refine AOps.cd hT hA { tk := [21] } (by (repeat (cbv; simp only [c6, c9, c12])); try cbv) (lb rfl) ?_
     cases soI hvK14
     exact oNi ⟨rfl, (by first | (cbv; done) | ((repeat (cbv; simp only [c6, c9, c12])); try cbv))⟩
   ·replace hvK14 := cF c9 hvK14
    refine AOps.cd hT hA { tk := [21] } (by (repeat (cbv; simp only [c6, c9])); try cbv) (lb rfl) ?_
    cases soI hvK14
    exact oNi ⟨rfl, (by first | (cbv; done) | ((repeat (cbv; simp only [c6, c9])); try cbv))⟩
  ·rintro _ rfl
   refine nT ?_
   refine zr ?_
   refine rB ?_
   refine rT ?_
   cases soI h
   exact ⟨rfl, rfl, rfl, lb rfl, _, rfl⟩
 ·replace h := cF c6 h
  refine zf rfl (by first | rfl | simp only [c6, zqa, zqb, zqc, zqd]) ?_
  refine zs ?_
  refine zg hT hA {} (by (repeat (cbv; simp only [c6])); try cbv) (lb rfl) ?_
  refine nT ?_
  rcases tf (A.zeq x1 2) with c15 | c15
  ·replace h := cT c15 h
   refine zt rfl (by first | rfl | simp only [c6, c15, zqa, zqb, zqc, zqd]) ?_
   refine zs ?_
   obtain ⟨v22, hvK23, h⟩ := bindS h
   refine AWp.cutN [4] [] 0 (lb rfl) (fun τ => τ = { env := [(4, (.d (.bool v22)))], heap := [], n := 114 }) ?_ ?_
   ·skip
    refine zn ?_
    obtain ⟨r17, e16, hvK23⟩ := bindS hvK23
    refine AOps.cc hT hA { tk := [36] } (by (repeat (cbv; simp only [c6, c15])); try cbv) (lb rfl) (C82w hA e16) rfl (.inl rfl) rfl rfl rfl (lb rfl) rfl rfl ?_
    rcases tf r17 with c18 | c18
    ·replace hvK23 := cT c18 hvK23
     obtain ⟨r20, e19, hvK23⟩ := bindS hvK23
     refine AOps.cc hT hA { tk := [36] } (by (repeat (cbv; simp only [c6, c15, c18])); try cbv) (lb rfl) (C111w hA e19) rfl (.inl rfl) rfl rfl rfl (lb rfl) rfl rfl ?_
     rcases tf r20 with c21 | c21
     ·replace hvK23 := cT c21 hvK23
      refine AOps.cd hT hA { tk := [36] } (by (repeat (cbv; simp only [c6, c15, c18, c21])); try cbv) (lb rfl) ?_
      cases soI hvK23
      exact oNi ⟨rfl, (by first | (cbv; done) | ((repeat (cbv; simp only [c6, c15, c18, c21])); try cbv))⟩
     ·replace hvK23 := cF c21 hvK23
      refine AOps.cd hT hA { tk := [36] } (by (repeat (cbv; simp only [c6, c15, c18, c21])); try cbv) (lb rfl) ?_
      cases soI hvK23
      exact oNi ⟨rfl, (by first | (cbv; done) | ((repeat (cbv; simp only [c6, c15, c18, c21])); try cbv))⟩
    ·replace hvK23 := cF c18 hvK23
     refine AOps.cd hT hA { tk := [36] } (by (repeat (cbv; simp only [c6, c15, c18])); try cbv) (lb rfl) ?_
     cases soI hvK23
     exact oNi ⟨rfl, (by first | (cbv; done) | ((repeat (cbv; simp only [c6, c15, c18])); try cbv))⟩
   ·rintro _ rfl
    refine nT ?_
    refine zr ?_
    refine rB ?_
    refine rT ?_
    cases soI h
    exact ⟨rfl, rfl, rfl, lb rfl, _, rfl⟩
  ·replace h := cF c15 h
   refine zf rfl (by first | rfl | simp only [c6, c15, zqa, zqb, zqc, zqd]) ?_
   refine zs ?_
   refine zg hT hA {} (by (repeat (cbv; simp only [c6, c15])); try cbv) (lb rfl) ?_
   refine nT ?_
   rcases tf (A.zeq x1 3) with c24 | c24
   ·replace h := cT c24 h
    refine zt rfl (by first | rfl | simp only [c6, c15, c24, zqa, zqb, zqc, zqd]) ?_
    refine zs ?_
    obtain ⟨v33, hvK34, h⟩ := bindS h
    refine AWp.cutN [4] [] 0 (lb rfl) (fun τ => τ = { env := [(4, (.d (.bool v33)))], heap := [], n := 114 }) ?_ ?_
    ·skip
     refine zn ?_
     obtain ⟨r26, e25, hvK34⟩ := bindS hvK34
     refine AOps.cc hT hA { tk := [51] } (by (repeat (cbv; simp only [c6, c15, c24])); try cbv) (lb rfl) (C82w hA e25) rfl (.inl rfl) rfl rfl rfl (lb rfl) rfl rfl ?_
     rcases tf r26 with c27 | c27
     ·replace hvK34 := cT c27 hvK34
      obtain ⟨r29, e28, hvK34⟩ := bindS hvK34
      refine AOps.cc hT hA { tk := [51] } (by (repeat (cbv; simp only [c6, c15, c24, c27])); try cbv) (lb rfl) (C111w hA e28) rfl (.inl rfl) rfl rfl rfl (lb rfl) rfl rfl ?_
      rcases tf r29 with c30 | c30
      ·replace hvK34 := cT c30 hvK34
       obtain ⟨r32, e31, hvK34⟩ := bindS hvK34
       refine AOps.cc hT hA { tk := [51] } (by (repeat (cbv; simp only [c6, c15, c24, c27, c30])); try cbv) (lb rfl) (C111w hA e31) rfl (.inl rfl) rfl rfl rfl (lb rfl) rfl rfl ?_
       refine AOps.cd hT hA { tk := [51] } (by (repeat (cbv; simp only [c6, c15, c24, c27, c30])); try cbv) (lb rfl) ?_
       cases soI hvK34
       exact oNi ⟨rfl, (by first | (cbv; done) | ((repeat (cbv; simp only [c6, c15, c24, c27, c30])); try cbv))⟩
      ·replace hvK34 := cF c30 hvK34
       refine AOps.cd hT hA { tk := [51] } (by (repeat (cbv; simp only [c6, c15, c24, c27, c30])); try cbv) (lb rfl) ?_
       cases soI hvK34
       exact oNi ⟨rfl, (by first | (cbv; done) | ((repeat (cbv; simp only [c6, c15, c24, c27, c30])); try cbv))⟩
     ·replace hvK34 := cF c27 hvK34
      refine AOps.cd hT hA { tk := [51] } (by (repeat (cbv; simp only [c6, c15, c24, c27])); try cbv) (lb rfl) ?_
      cases soI hvK34
      exact oNi ⟨rfl, (by first | (cbv; done) | ((repeat (cbv; simp only [c6, c15, c24, c27])); try cbv))⟩
    ·rintro _ rfl
     refine nT ?_
     refine zr ?_
     refine rB ?_
     refine rT ?_
     cases soI h
     exact ⟨rfl, rfl, rfl, lb rfl, _, rfl⟩
   ·replace h := cF c24 h
    refine zf rfl (by first | rfl | simp only [c6, c15, c24, zqa, zqb, zqc, zqd]) ?_
    refine zs ?_
    refine zg hT hA {} (by (repeat (cbv; simp only [c6, c15, c24])); try cbv) (lb rfl) ?_
    refine nT ?_
    rcases tf (A.zeq x1 4) with c35 | c35
    ·replace h := cT c35 h
     refine zt rfl (by first | rfl | simp only [c6, c15, c24, c35, zqa, zqb, zqc, zqd]) ?_
     refine zs ?_
     obtain ⟨v42, hvK43, h⟩ := bindS h
     refine AWp.cutN [4] [] 0 (lb rfl) (fun τ => τ = { env := [(4, (.d (.bool v42)))], heap := [], n := 114 }) ?_ ?_
     ·skip
      refine zn ?_
      obtain ⟨r37, e36, hvK43⟩ := bindS hvK43
      refine AOps.cc hT hA { tk := [66] } (by (repeat (cbv; simp only [c6, c15, c24, c35])); try cbv) (lb rfl) (C111w hA e36) rfl (.inl rfl) rfl rfl rfl (lb rfl) rfl rfl ?_
      rcases tf r37 with c38 | c38
      ·replace hvK43 := cT c38 hvK43
       obtain ⟨r40, e39, hvK43⟩ := bindS hvK43
       refine AOps.cc hT hA { tk := [66] } (by (repeat (cbv; simp only [c6, c15, c24, c35, c38])); try cbv) (lb rfl) (C112w hA e39) rfl (.inl rfl) rfl rfl rfl (lb rfl) rfl rfl ?_
       rcases tf r40 with c41 | c41
       ·replace hvK43 := cT c41 hvK43
        refine AOps.cd hT hA { tk := [66] } (by (repeat (cbv; simp only [c6, c15, c24, c35, c38, c41])); try cbv) (lb rfl) ?_
        cases soI hvK43
        exact oNi ⟨rfl, (by first | (cbv; done) | ((repeat (cbv; simp only [c6, c15, c24, c35, c38, c41])); try cbv))⟩
       ·replace hvK43 := cF c41 hvK43
        refine AOps.cd hT hA { tk := [66] } (by (repeat (cbv; simp only [c6, c15, c24, c35, c38, c41])); try cbv) (lb rfl) ?_
        cases soI hvK43
        exact oNi ⟨rfl, (by first | (cbv; done) | ((repeat (cbv; simp only [c6, c15, c24, c35, c38, c41])); try cbv))⟩
      ·replace hvK43 := cF c38 hvK43
       refine AOps.cd hT hA { tk := [66] } (by (repeat (cbv; simp only [c6, c15, c24, c35, c38])); try cbv) (lb rfl) ?_
       cases soI hvK43
       exact oNi ⟨rfl, (by first | (cbv; done) | ((repeat (cbv; simp only [c6, c15, c24, c35, c38])); try cbv))⟩
     ·rintro _ rfl
      refine nT ?_
      refine zr ?_
      refine rB ?_
      refine rT ?_
      cases soI h
      exact ⟨rfl, rfl, rfl, lb rfl, _, rfl⟩
    ·replace h := cF c35 h
     refine zf rfl (by first | rfl | simp only [c6, c15, c24, c35, zqa, zqb, zqc, zqd]) ?_
     refine zs ?_
     refine zg hT hA {} (by (repeat (cbv; simp only [c6, c15, c24, c35])); try cbv) (lb rfl) ?_
     refine nT ?_
     rcases tf (A.zeq x1 5) with c44 | c44
     ·replace h := cT c44 h
      refine zt rfl (by first | rfl | simp only [c6, c15, c24, c35, c44, zqa, zqb, zqc, zqd]) ?_
      refine zs ?_
      obtain ⟨v53, hvK54, h⟩ := bindS h
      refine AWp.cutN [4] [] 0 (lb rfl) (fun τ => τ = { env := [(4, (.d (.bool v53)))], heap := [], n := 114 }) ?_ ?_
      ·skip
       refine zn ?_
       obtain ⟨r46, e45, hvK54⟩ := bindS hvK54
       refine AOps.cc hT hA { tk := [81] } (by (repeat (cbv; simp only [c6, c15, c24, c35, c44])); try cbv) (lb rfl) (C111w hA e45) rfl (.inl rfl) rfl rfl rfl (lb rfl) rfl rfl ?_
       rcases tf r46 with c47 | c47
       ·replace hvK54 := cT c47 hvK54
        obtain ⟨r49, e48, hvK54⟩ := bindS hvK54
        refine AOps.cc hT hA { tk := [81] } (by (repeat (cbv; simp only [c6, c15, c24, c35, c44, c47])); try cbv) (lb rfl) (C111w hA e48) rfl (.inl rfl) rfl rfl rfl (lb rfl) rfl rfl ?_
        rcases tf r49 with c50 | c50
        ·replace hvK54 := cT c50 hvK54
         obtain ⟨r52, e51, hvK54⟩ := bindS hvK54
         refine AOps.cc hT hA { tk := [81] } (by (repeat (cbv; simp only [c6, c15, c24, c35, c44, c47, c50])); try cbv) (lb rfl) (C111w hA e51) rfl (.inl rfl) rfl rfl rfl (lb rfl) rfl rfl ?_
         refine AOps.cd hT hA { tk := [81] } (by (repeat (cbv; simp only [c6, c15, c24, c35, c44, c47, c50])); try cbv) (lb rfl) ?_
         cases soI hvK54
         exact oNi ⟨rfl, (by first | (cbv; done) | ((repeat (cbv; simp only [c6, c15, c24, c35, c44, c47, c50])); try cbv))⟩
        ·replace hvK54 := cF c50 hvK54
         refine AOps.cd hT hA { tk := [81] } (by (repeat (cbv; simp only [c6, c15, c24, c35, c44, c47, c50])); try cbv) (lb rfl) ?_
         cases soI hvK54
         exact oNi ⟨rfl, (by first | (cbv; done) | ((repeat (cbv; simp only [c6, c15, c24, c35, c44, c47, c50])); try cbv))⟩
       ·replace hvK54 := cF c47 hvK54
        refine AOps.cd hT hA { tk := [81] } (by (repeat (cbv; simp only [c6, c15, c24, c35, c44, c47])); try cbv) (lb rfl) ?_
        cases soI hvK54
        exact oNi ⟨rfl, (by first | (cbv; done) | ((repeat (cbv; simp only [c6, c15, c24, c35, c44, c47])); try cbv))⟩
      ·rintro _ rfl
       refine nT ?_
       refine zr ?_
       refine rB ?_
       refine rT ?_
       cases soI h
       exact ⟨rfl, rfl, rfl, lb rfl, _, rfl⟩
     ·replace h := cF c44 h
      refine zf rfl (by first | rfl | simp only [c6, c15, c24, c35, c44, zqa, zqb, zqc, zqd]) ?_
      refine zs ?_
      refine zg hT hA {} (by (repeat (cbv; simp only [c6, c15, c24, c35, c44])); try cbv) (lb rfl) ?_
      refine nT ?_
      rcases tf (A.zeq x1 6) with c55 | c55
      ·replace h := cT c55 h
       refine zt rfl (by first | rfl | simp only [c6, c15, c24, c35, c44, c55, zqa, zqb, zqc, zqd]) ?_
       refine zs ?_
       obtain ⟨v62, hvK63, h⟩ := bindS h
       refine AWp.cutN [4] [] 0 (lb rfl) (fun τ => τ = { env := [(4, (.d (.bool v62)))], heap := [], n := 114 }) ?_ ?_
       ·skip
        refine zn ?_
        obtain ⟨r57, e56, hvK63⟩ := bindS hvK63
        refine AOps.cc hT hA { tk := [98] } (by (repeat (cbv; simp only [c6, c15, c24, c35, c44, c55])); try cbv) (lb rfl) (C111w hA e56) rfl (.inl rfl) rfl rfl rfl (lb rfl) rfl rfl ?_
        rcases tf r57 with c58 | c58
        ·replace hvK63 := cT c58 hvK63
         obtain ⟨r60, e59, hvK63⟩ := bindS hvK63
         refine AOps.cc hT hA { tk := [98] } (by (repeat (cbv; simp only [c6, c15, c24, c35, c44, c55, c58])); try cbv) (lb rfl) (C51w hA e59) rfl (.inl rfl) rfl rfl rfl (lb rfl) rfl rfl ?_
         rcases tf r60 with c61 | c61
         ·replace hvK63 := cT c61 hvK63
          refine AOps.cd hT hA { tk := [98] } (by (repeat (cbv; simp only [c6, c15, c24, c35, c44, c55, c58, c61])); try cbv) (lb rfl) ?_
          cases soI hvK63
          exact oNi ⟨rfl, (by first | (cbv; done) | ((repeat (cbv; simp only [c6, c15, c24, c35, c44, c55, c58, c61])); try cbv))⟩
         ·replace hvK63 := cF c61 hvK63
          refine AOps.cd hT hA { tk := [98] } (by (repeat (cbv; simp only [c6, c15, c24, c35, c44, c55, c58, c61])); try cbv) (lb rfl) ?_
          cases soI hvK63
          exact oNi ⟨rfl, (by first | (cbv; done) | ((repeat (cbv; simp only [c6, c15, c24, c35, c44, c55, c58, c61])); try cbv))⟩
        ·replace hvK63 := cF c58 hvK63
         refine AOps.cd hT hA { tk := [98] } (by (repeat (cbv; simp only [c6, c15, c24, c35, c44, c55, c58])); try cbv) (lb rfl) ?_
         cases soI hvK63
         exact oNi ⟨rfl, (by first | (cbv; done) | ((repeat (cbv; simp only [c6, c15, c24, c35, c44, c55, c58])); try cbv))⟩
       ·rintro _ rfl
        refine nT ?_
        refine zr ?_
        refine rB ?_
        refine rT ?_
        cases soI h
        exact ⟨rfl, rfl, rfl, lb rfl, _, rfl⟩
      ·replace h := cF c55 h
       refine zf rfl (by first | rfl | simp only [c6, c15, c24, c35, c44, c55, zqa, zqb, zqc, zqd]) ?_
       refine zs ?_
       refine zg hT hA {} (by (repeat (cbv; simp only [c6, c15, c24, c35, c44, c55])); try cbv) (lb rfl) ?_
       refine nT ?_
       rcases tf (A.zeq x1 7) with c64 | c64
       ·replace h := cT c64 h
        refine zt rfl (by first | rfl | simp only [c6, c15, c24, c35, c44, c55, c64, zqa, zqb, zqc, zqd]) ?_
        refine zs ?_
        obtain ⟨v69, hvK70, h⟩ := bindS h
        refine AWp.cutN [4] [] 0 (lb rfl) (fun τ => τ = { env := [(4, (.d (.bool v69)))], heap := [], n := 114 }) ?_ ?_
        ·skip
         refine zn ?_
         obtain ⟨r66, e65, hvK70⟩ := bindS hvK70
         refine AOps.cc hT hA { tk := [113] } (by (repeat (cbv; simp only [c6, c15, c24, c35, c44, c55, c64])); try cbv) (lb rfl) (C111w hA e65) rfl (.inl rfl) rfl rfl rfl (lb rfl) rfl rfl ?_
         rcases tf r66 with c67 | c67
         ·replace hvK70 := cT c67 hvK70
          rcases tf (A.zeq x3 0) with c68 | c68
          ·replace hvK70 := cT c68 hvK70
           refine AOps.cd hT hA { tk := [113] } (by (repeat (cbv; simp only [c6, c15, c24, c35, c44, c55, c64, c67, c68])); try cbv) (lb rfl) ?_
           cases soI hvK70
           exact oNi ⟨rfl, (by first | (cbv; done) | ((repeat (cbv; simp only [c6, c15, c24, c35, c44, c55, c64, c67, c68])); try cbv))⟩
          ·replace hvK70 := cF c68 hvK70
           refine AOps.cd hT hA { tk := [113] } (by (repeat (cbv; simp only [c6, c15, c24, c35, c44, c55, c64, c67, c68])); try cbv) (lb rfl) ?_
           cases soI hvK70
           exact oNi ⟨rfl, (by first | (cbv; done) | ((repeat (cbv; simp only [c6, c15, c24, c35, c44, c55, c64, c67, c68])); try cbv))⟩
         ·replace hvK70 := cF c67 hvK70
          refine AOps.cd hT hA { tk := [113] } (by (repeat (cbv; simp only [c6, c15, c24, c35, c44, c55, c64, c67])); try cbv) (lb rfl) ?_
          cases soI hvK70
          exact oNi ⟨rfl, (by first | (cbv; done) | ((repeat (cbv; simp only [c6, c15, c24, c35, c44, c55, c64, c67])); try cbv))⟩
        ·rintro _ rfl
         refine nT ?_
         refine zr ?_
         refine rB ?_
         refine rT ?_
         cases soI h
         exact ⟨rfl, rfl, rfl, lb rfl, _, rfl⟩
       ·replace h := cF c64 h
        refine zf rfl (by first | rfl | simp only [c6, c15, c24, c35, c44, c55, c64, zqa, zqb, zqc, zqd]) ?_
        refine zk ?_
        refine nB ?_
        refine nT (zs ?_)
        refine zg hT hA {} (by (repeat (cbv; simp only [c6, c15, c24, c35, c44, c55, c64])); try cbv) (lb rfl) ?_
        refine nT ?_
        refine zr ?_
        cases soI h
        exact ⟨rfl, rfl, rfl, lb rfl, _, rfl⟩

theorem C16w {A : Ar} (hA : A = Ar.std) {x1 : List D} {v87 : Bool} (h : C16 A x1 = some v87) : ACall Try.prog 16 [(zl 1 x1)] [] (.d (.bool v87)) [] := by
 unfold C16 at h
 refine ACall.enter hT (fn := Try.f16) Try.func16 rfl (by decide) (by simp [Try.f16]) rfl rfl rfl rfl (lb rfl) ?_
 refine zs ?_
 refine zg hT hA {} (by cbv) (lb rfl) ?_
 refine nT (zs (zs (zn ?_)))
 obtain ⟨r3, e2, h⟩ := bindS h
 refine AOps.cc hT hA {} (by cbv) (lb rfl) (C51w hA e2) rfl (.inl rfl) rfl rfl rfl (lb rfl) rfl rfl ?_
 refine AOps.cd hT hA {} (by cbv) (lb rfl) ?_
 refine nT ?_
 rcases tf r3 with c4 | c4
 ·replace h := cT c4 h
  refine zf rfl (by first | rfl | simp only [c4, zqa, zqb, zqc, zqd]) ?_
  refine zk ?_
  refine nT (zs (zs ?_))
  refine zg hT hA {} (by (repeat (cbv; simp only [c4])); try cbv) (lb rfl) ?_
  refine nT (zb ?_)
  obtain ⟨xK86, hxK86, K86, hK86, hkK86⟩ := bindK h
  refine AWp.cutX 0 [] [] 0 (lb rfl) (fun τ => K86 (.inl ()) = some v87 ∧ τ = { env := [], heap := [], n := 59 }) ?_ ?_
  ·skip
   refine AWp.iter hxK86 [0, 3] [] 0 (lb rfl) (fun v45 => { env := [(0, (zl 1 x1)), (3, (zi v45))], heap := [], n := 59 }) ⟨rfl, (by first | (cbv; done) | ((repeat (cbv; simp only [c4])); try cbv))⟩ ?_
   rintro v45 eK86 hsK86
   dsimp only [C16L1] at hsK86
   refine zs (zs ?_)
   refine zg hT hA {} (by cbv) (lb rfl) ?_
   refine nT ?_
   rcases tf (A.zlt v45 (A.len x1)) with c46 | c46
   ·replace hsK86 := cT c46 hsK86
    refine zt rfl (by first | rfl | simp only [c46, zqa, zqb, zqc, zqd]) ?_
    refine zk ?_
    refine nT (zs (zb (zs (zs (zn ?_)))))
    obtain ⟨a47, e48, hsK86⟩ := bindS hsK86
    obtain ⟨f49, f50⟩ := gtI e48
    obtain ⟨r52, e51, hsK86⟩ := bindS hsK86
    refine AOps.cc hT hA {} (by (repeat (cbv; simp only [c46, f49, f50])); try cbv) (lb rfl) (C51w hA e51) rfl (.inl rfl) rfl rfl rfl (lb rfl) rfl rfl ?_
    refine AOps.cd hT hA {} (by (repeat (cbv; simp only [c46, f49, f50])); try cbv) (lb rfl) ?_
    refine nT ?_
    rcases tf r52 with c53 | c53
    ·replace hsK86 := cT c53 hsK86
     refine zf rfl (by first | rfl | simp only [c46, c53, zqa, zqb, zqc, zqd]) ?_
     refine zk ?_
     refine nT (zs (zs ?_))
     refine zg hT hA {} (by (repeat (cbv; simp only [c46, c53])); try cbv) (lb rfl) ?_
     refine nT (zb ?_)
     obtain ⟨xK77, hxK77, K77, hK77, hkK77⟩ := bindK hsK86
     refine AWp.cutX 2 [0, 3] [] 0 (lb rfl) (fun τ => K77 (.inl ()) = some eK86 ∧ τ = { env := [(0, (zl 1 x1)), (3, (zi v45))], heap := [], n := 59 }) ?_ ?_
     ·skip
      refine AWp.iter hxK77 [0, 3, 4] [] 0 (lb rfl) (fun v65 => { env := [(0, (zl 1 x1)), (3, (zi v45)), (4, (zi v65))], heap := [], n := 59 }) ⟨rfl, (by first | (cbv; done) | ((repeat (cbv; simp only [c46, c53])); try cbv))⟩ ?_
      rintro v65 eK77 hsK77
      dsimp only [C16L0] at hsK77
      refine zs (zs ?_)
      refine zg hT hA {} (by (repeat (cbv; simp only [f49, f50])); try cbv) (lb rfl) ?_
      refine nT ?_
      rcases tf (A.zlt v65 (A.len a47)) with c66 | c66
      ·replace hsK77 := cT c66 hsK77
       refine zt rfl (by first | rfl | simp only [c66, zqa, zqb, zqc, zqd]) ?_
       refine zk ?_
       refine nT (zs (zb (zs ?_)))
       refine AWp.regionDraw rfl (lb rfl) ?_
       obtain ⟨⟨a67, a68, a69, a70⟩, e71, hsK77⟩ := bindS hsK77
       obtain ⟨f72, f73⟩ := gtI e71
       obtain ⟨r75, e74, hsK77⟩ := bindS hsK77
       refine DOps.c0 hT hA {} rfl (by (repeat (cbv; simp only [c66, f49, f50, f72, f73])); try cbv) (C52w hA e74) rfl rfl (lb rfl) rfl rfl ?_
       refine DOps.cd hT hA {} rfl (by (repeat (cbv; simp only [c66, f49, f50, f72, f73])); try cbv) (by kernel_rfl) ?_
       refine nT ?_
       rcases tf r75 with c76 | c76
       ·replace hsK77 := cT c76 hsK77
        refine zf rfl (by first | rfl | simp only [c66, c76, zqa, zqb, zqc, zqd]) ?_
        refine zk ?_
        refine nB ?_
        refine nT ?_
        refine zg hT hA {} (by (repeat (cbv; simp only [c66, c76])); try cbv) (lb rfl) ?_
        exact nT ⟨_, (soI hsK77).symm, rfl, (by first | (cbv; done) | ((repeat (cbv; simp only [c66, c76])); try cbv))⟩
       ·replace hsK77 := cF c76 hsK77
        refine zt rfl (by first | rfl | simp only [c66, c76, zqa, zqb, zqc, zqd]) ?_
        refine zs ?_
        refine zg hT hA {} (by (repeat (cbv; simp only [c66, c76])); try cbv) (lb rfl) ?_
        refine nT ?_
        refine zr ?_
        refine rB ?_
        refine rT ?_
        refine rT ?_
        refine exL hsK77 fun hx => ?_
        subst hx
        refine oxR ?_
        replace hkK77 := (eR (hK77 _ hkK77))
        refine rB ?_
        refine rT ?_
        refine rB ?_
        refine rT ?_
        refine rT ?_
        refine exL hkK77 fun hx => ?_
        subst hx
        refine oxR ?_
        replace hkK86 := (eR (hK86 _ hkK86))
        refine rB ?_
        refine rT ?_
        cases soI hkK86
        exact ⟨rfl, rfl, rfl, lb rfl, _, rfl⟩
      ·replace hsK77 := cF c66 hsK77
       refine zf rfl (by first | rfl | simp only [c66, zqa, zqb, zqc, zqd]) ?_
       refine AWp.exit ?_
       refine xT ?_
       refine xT ?_
       refine exL hsK77 fun hx => ?_
       subst hx
       exact oxI ⟨rfl, hkK77, (by first | (cbv; done) | ((repeat (cbv; simp only [c66])); try cbv))⟩
     ·rintro _ ⟨hkK77, rfl⟩
      have hsK86 := (eL (hK77 _ hkK77))
      refine xB ?_
      refine nT (zs ?_)
      obtain ⟨⟨a78, a79, a80, a81⟩, e82, hsK86⟩ := bindS hsK86
      obtain ⟨f83, f84⟩ := gtI e82
      refine AWp.rd hT hA {} rfl (by (repeat (cbv; simp only [f49, f50, f83, f84])); try cbv) (by kernel_rfl) (lb rfl) ?_
      refine nT ?_
      rcases tf (A.zeq a78 7) with c85 | c85
      ·replace hsK86 := cT c85 hsK86
       refine zf rfl (by first | rfl | simp only [c85, zqa, zqb, zqc, zqd]) ?_
       refine zk ?_
       refine nB ?_
       refine nT ?_
       refine zg hT hA {} (by (repeat (cbv; simp only [c85])); try cbv) (lb rfl) ?_
       exact nT ⟨_, (soI hsK86).symm, rfl, (by first | (cbv; done) | ((repeat (cbv; simp only [c85])); try cbv))⟩
      ·replace hsK86 := cF c85 hsK86
       refine zt rfl (by first | rfl | simp only [c85, zqa, zqb, zqc, zqd]) ?_
       refine zs ?_
       refine zg hT hA {} (by (repeat (cbv; simp only [c85])); try cbv) (lb rfl) ?_
       refine nT ?_
       refine zr ?_
       refine rB ?_
       refine rT ?_
       refine rT ?_
       refine exL hsK86 fun hx => ?_
       subst hx
       refine oxR ?_
       replace hkK86 := (eR (hK86 _ hkK86))
       refine rB ?_
       refine rT ?_
       cases soI hkK86
       exact ⟨rfl, rfl, rfl, lb rfl, _, rfl⟩
    ·replace hsK86 := cF c53 hsK86
     refine zt rfl (by first | rfl | simp only [c46, c53, zqa, zqb, zqc, zqd]) ?_
     refine zs ?_
     refine zg hT hA {} (by (repeat (cbv; simp only [c46, c53])); try cbv) (lb rfl) ?_
     refine nT ?_
     refine zr ?_
     refine rT ?_
     refine rB ?_
     refine rT ?_
     refine rT ?_
     refine exL hsK86 fun hx => ?_
     subst hx
     refine oxR ?_
     replace hkK86 := (eR (hK86 _ hkK86))
     refine rB ?_
     refine rT ?_
     cases soI hkK86
     exact ⟨rfl, rfl, rfl, lb rfl, _, rfl⟩
   ·replace hsK86 := cF c46 hsK86
    refine zf rfl (by first | rfl | simp only [c46, zqa, zqb, zqc, zqd]) ?_
    refine AWp.exit ?_
    refine xT ?_
    refine xT ?_
    refine exL hsK86 fun hx => ?_
    subst hx
    exact oxI ⟨rfl, hkK86, (by first | (cbv; done) | ((repeat (cbv; simp only [c46])); try cbv))⟩
  ·rintro _ ⟨hkK86, rfl⟩
   have h := (eL (hK86 _ hkK86))
   refine xB ?_
   refine nT (zs ?_)
   refine zg hT hA {} (by cbv) (lb rfl) ?_
   refine nT ?_
   refine zr ?_
   cases soI h
   exact ⟨rfl, rfl, rfl, lb rfl, _, rfl⟩
 ·replace h := cF c4 h
  refine zt rfl (by first | rfl | simp only [c4, zqa, zqb, zqc, zqd]) ?_
  refine zs ?_
  refine zg hT hA {} (by (repeat (cbv; simp only [c4])); try cbv) (lb rfl) ?_
  refine nT ?_
  refine zr ?_
  refine rT ?_
  cases soI h
  exact ⟨rfl, rfl, rfl, lb rfl, _, rfl⟩

theorem C43w {A : Ar} (hA : A = Ar.std) {x1 x2 : List D} {v56 : Bool} (h : C43 A x1 x2 = some v56) : ACall Try.prog 43 [(zl 1 x1), (zl 1 x2)] [] (.d (.bool v56)) [] := by
 unfold C43 at h
 refine ACall.enter hT (fn := Try.f43) Try.func43 rfl (by decide) (by simp [Try.f43]) rfl rfl rfl rfl (lb rfl) ?_
 refine zs ?_
 refine zg hT hA {} (by cbv) (lb rfl) ?_
 refine nT (zs (zs (zn ?_)))
 obtain ⟨r4, e3, h⟩ := bindS h
 refine AOps.cc hT hA {} (by cbv) (lb rfl) (C51w hA e3) rfl (.inl rfl) rfl rfl rfl (lb rfl) rfl rfl ?_
 refine AOps.cd hT hA {} (by cbv) (lb rfl) ?_
 refine nT ?_
 rcases tf r4 with c5 | c5
 ·replace h := cT c5 h
  refine zf rfl (by first | rfl | simp only [c5, zqa, zqb, zqc, zqd]) ?_
  refine zk ?_
  refine nT (zs (zs ?_))
  refine zg hT hA {} (by (repeat (cbv; simp only [c5])); try cbv) (lb rfl) ?_
  refine nT (zb ?_)
  obtain ⟨xK55, hxK55, K55, hK55, hkK55⟩ := bindK h
  refine AWp.cutX 0 [] [] 0 (lb rfl) (fun τ => K55 (.inl ()) = some v56 ∧ τ = { env := [], heap := [], n := 44 }) ?_ ?_
  ·skip
   refine AWp.iter hxK55 [0, 1, 5] [] 0 (lb rfl) (fun v30 => { env := [(0, (zl 1 x1)), (1, (zl 1 x2)), (5, (zi v30))], heap := [], n := 44 }) ⟨rfl, (by first | (cbv; done) | ((repeat (cbv; simp only [c5])); try cbv))⟩ ?_
   rintro v30 eK55 hsK55
   dsimp only [C43L1] at hsK55
   refine zs (zs ?_)
   refine zg hT hA {} (by cbv) (lb rfl) ?_
   refine nT ?_
   rcases tf (A.zlt v30 (A.len x2)) with c31 | c31
   ·replace hsK55 := cT c31 hsK55
    refine zt rfl (by first | rfl | simp only [c31, zqa, zqb, zqc, zqd]) ?_
    refine zk ?_
    refine nT (zs (zb (zs (zs ?_))))
    obtain ⟨a32, e33, hsK55⟩ := bindS hsK55
    obtain ⟨f34, f35⟩ := gtI e33
    refine zg hT hA {} (by (repeat (cbv; simp only [c31, f34, f35])); try cbv) (lb rfl) ?_
    refine nT ?_
    rcases tf (A.zlt 3 (A.len a32)) with c36 | c36
    ·replace hsK55 := cT c36 hsK55
     refine zt rfl (by first | rfl | simp only [c31, c36, zqa, zqb, zqc, zqd]) ?_
     refine zs ?_
     refine zg hT hA {} (by (repeat (cbv; simp only [c31, c36])); try cbv) (lb rfl) ?_
     refine nT ?_
     refine zr ?_
     refine rT ?_
     refine rB ?_
     refine rT ?_
     refine rT ?_
     refine exL hsK55 fun hx => ?_
     subst hx
     refine oxR ?_
     replace hkK55 := (eR (hK55 _ hkK55))
     refine rB ?_
     refine rT ?_
     cases soI hkK55
     exact ⟨rfl, rfl, rfl, lb rfl, _, rfl⟩
    ·replace hsK55 := cF c36 hsK55
     refine zf rfl (by first | rfl | simp only [c31, c36, zqa, zqb, zqc, zqd]) ?_
     refine zk ?_
     refine nT (zs ?_)
     refine zg hT hA {} (by (repeat (cbv; simp only [c31, c36])); try cbv) (lb rfl) ?_
     refine nT (zb ?_)
     obtain ⟨xK54, hxK54, K54, hK54, hkK54⟩ := bindK hsK55
     refine AWp.cutX 2 [0, 1, 5] [] 0 (lb rfl) (fun τ => K54 (.inl ()) = some eK55 ∧ τ = { env := [(0, (zl 1 x1)), (1, (zl 1 x2)), (5, (zi v30))], heap := [], n := 44 }) ?_ ?_
     ·skip
      refine AWp.iter hxK54 [0, 1, 5, 6] [] 0 (lb rfl) (fun v45 => { env := [(0, (zl 1 x1)), (1, (zl 1 x2)), (5, (zi v30)), (6, (zi v45))], heap := [], n := 44 }) ⟨rfl, (by first | (cbv; done) | ((repeat (cbv; simp only [c31, c36])); try cbv))⟩ ?_
      rintro v45 eK54 hsK54
      dsimp only [C43L0] at hsK54
      refine zs (zs ?_)
      refine zg hT hA {} (by (repeat (cbv; simp only [f34, f35])); try cbv) (lb rfl) ?_
      refine nT ?_
      rcases tf (A.zlt v45 (A.len a32)) with c46 | c46
      ·replace hsK54 := cT c46 hsK54
       refine zt rfl (by first | rfl | simp only [c46, zqa, zqb, zqc, zqd]) ?_
       refine zk ?_
       refine nT (zs (zb (zs (zn ?_))))
       obtain ⟨a47, e48, hsK54⟩ := bindS hsK54
       obtain ⟨f49, f50⟩ := gtI e48
       obtain ⟨r52, e51, hsK54⟩ := bindS hsK54
       refine AOps.cc hT hA {} (by (repeat (cbv; simp only [c46, f34, f35, f49, f50])); try cbv) (lb rfl) (C51w hA e51) rfl (.inl rfl) rfl rfl rfl (lb rfl) rfl rfl ?_
       refine AOps.cd hT hA {} (by (repeat (cbv; simp only [c46, f34, f35, f49, f50])); try cbv) (lb rfl) ?_
       refine nT ?_
       rcases tf r52 with c53 | c53
       ·replace hsK54 := cT c53 hsK54
        refine zf rfl (by first | rfl | simp only [c46, c53, zqa, zqb, zqc, zqd]) ?_
        refine zk ?_
        refine nB ?_
        refine nT ?_
        refine zg hT hA {} (by (repeat (cbv; simp only [c46, c53])); try cbv) (lb rfl) ?_
        exact nT ⟨_, (soI hsK54).symm, rfl, (by first | (cbv; done) | ((repeat (cbv; simp only [c46, c53])); try cbv))⟩
       ·replace hsK54 := cF c53 hsK54
        refine zt rfl (by first | rfl | simp only [c46, c53, zqa, zqb, zqc, zqd]) ?_
        refine zs ?_
        refine zg hT hA {} (by (repeat (cbv; simp only [c46, c53])); try cbv) (lb rfl) ?_
        refine nT ?_
        refine zr ?_
        refine rB ?_
        refine rT ?_
        refine rT ?_
        refine exL hsK54 fun hx => ?_
        subst hx
        refine oxR ?_
        replace hkK54 := (eR (hK54 _ hkK54))
        refine rB ?_
        refine rB ?_
        refine rT ?_
        refine rT ?_
        refine exL hkK54 fun hx => ?_
        subst hx
        refine oxR ?_
        replace hkK55 := (eR (hK55 _ hkK55))
        refine rB ?_
        refine rT ?_
        cases soI hkK55
        exact ⟨rfl, rfl, rfl, lb rfl, _, rfl⟩
      ·replace hsK54 := cF c46 hsK54
       refine zf rfl (by first | rfl | simp only [c46, zqa, zqb, zqc, zqd]) ?_
       refine AWp.exit ?_
       refine xT ?_
       refine xT ?_
       refine exL hsK54 fun hx => ?_
       subst hx
       exact oxI ⟨rfl, hkK54, (by first | (cbv; done) | ((repeat (cbv; simp only [c46])); try cbv))⟩
     ·rintro _ ⟨hkK54, rfl⟩
      have hsK55 := (eL (hK54 _ hkK54))
      refine xB ?_
      refine nB ?_
      refine nT ?_
      refine zg hT hA {} (by cbv) (lb rfl) ?_
      exact nT ⟨_, (soI hsK55).symm, rfl, (by cbv)⟩
   ·replace hsK55 := cF c31 hsK55
    refine zf rfl (by first | rfl | simp only [c31, zqa, zqb, zqc, zqd]) ?_
    refine AWp.exit ?_
    refine xT ?_
    refine xT ?_
    refine exL hsK55 fun hx => ?_
    subst hx
    exact oxI ⟨rfl, hkK55, (by first | (cbv; done) | ((repeat (cbv; simp only [c31])); try cbv))⟩
  ·rintro _ ⟨hkK55, rfl⟩
   have h := (eL (hK55 _ hkK55))
   refine xB ?_
   refine nT (zs ?_)
   refine zg hT hA {} (by cbv) (lb rfl) ?_
   refine nT ?_
   refine zr ?_
   cases soI h
   exact ⟨rfl, rfl, rfl, lb rfl, _, rfl⟩
 ·replace h := cF c5 h
  refine zt rfl (by first | rfl | simp only [c5, zqa, zqb, zqc, zqd]) ?_
  refine zs ?_
  refine zg hT hA {} (by (repeat (cbv; simp only [c5])); try cbv) (lb rfl) ?_
  refine nT ?_
  refine zr ?_
  refine rT ?_
  cases soI h
  exact ⟨rfl, rfl, rfl, lb rfl, _, rfl⟩

theorem C17w {A : Ar} (hA : A = Ar.std) {x1 x2 : List D} {v46 : Bool} (h : C17 A x1 x2 = some v46) : ACall Try.prog 17 [(zl 6 x1), (zl 6 x2)] [] (.d (.bool v46)) [] := by
 unfold C17 at h
 refine ACall.enter hT (fn := Try.f17) Try.func17 rfl (by decide) (by simp [Try.f17]) rfl rfl rfl rfl (lb rfl) ?_
 refine zs ?_
 refine zg hT hA {} (by cbv) (lb rfl) ?_
 refine nT (zs (zs ?_))
 refine zg hT hA {} (by cbv) (lb rfl) ?_
 refine nT ?_
 rcases tf (A.zeq (A.len x1) (A.len x2)) with c3 | c3
 ·replace h := cT c3 h
  refine zf rfl (by first | rfl | simp only [c3, zqa, zqb, zqc, zqd]) ?_
  refine zk ?_
  refine nT (zs (zs ?_))
  refine zg hT hA {} (by (repeat (cbv; simp only [c3])); try cbv) (lb rfl) ?_
  refine nT (zb ?_)
  obtain ⟨xK45, hxK45, K45, hK45, hkK45⟩ := bindK h
  refine AWp.cutX 0 [] [] 0 (lb rfl) (fun τ => K45 (.inl ()) = some v46 ∧ τ = { env := [], heap := [], n := 26 }) ?_ ?_
  ·skip
   refine AWp.iter hxK45 [0, 1, 5] [] 0 (lb rfl) (fun v24 => { env := [(0, (zl 6 x1)), (1, (zl 6 x2)), (5, (zi v24))], heap := [], n := 26 }) ⟨rfl, (by first | (cbv; done) | ((repeat (cbv; simp only [c3])); try cbv))⟩ ?_
   rintro v24 eK45 hsK45
   dsimp only [C17L0] at hsK45
   refine zs (zs ?_)
   refine zg hT hA {} (by cbv) (lb rfl) ?_
   refine nT ?_
   rcases tf (A.zlt v24 (A.len x1)) with c25 | c25
   ·replace hsK45 := cT c25 hsK45
    refine zt rfl (by first | rfl | simp only [c25, zqa, zqb, zqc, zqd]) ?_
    refine zk ?_
    refine nT (zs (zb (zs ?_)))
    obtain ⟨⟨a26, a27, a28, a29, a30, a31⟩, e32, hsK45⟩ := bindS hsK45
    obtain ⟨f33, f34⟩ := gtI e32
    obtain ⟨⟨a35, a36, a37, a38, a39, a40⟩, e41, hsK45⟩ := bindS hsK45
    obtain ⟨f42, f43⟩ := gtI e41
    refine AWp.rd hT hA {} rfl (by (repeat (cbv; simp only [c25, f33, f34, f42, f43])); try cbv) (by kernel_rfl) (lb rfl) ?_
    refine nT ?_
    rcases tf (A.deq [(.int .i64 a26), (.int .i64 a27), (.int .i64 a28), (.int .i64 a29), (.int .i64 a30), (.int .i64 a31)] [(.int .i64 a35), (.int .i64 a36), (.int .i64 a37), (.int .i64 a38), (.int .i64 a39), (.int .i64 a40)]) with c44 | c44
    ·replace hsK45 := cT c44 hsK45
     refine zf rfl (by first | rfl | simp only [c25, c44, zqa, zqb, zqc, zqd]) ?_
     refine zk ?_
     refine nB ?_
     refine nT ?_
     refine zg hT hA {} (by (repeat (cbv; simp only [c25, c44])); try cbv) (lb rfl) ?_
     exact nT ⟨_, (soI hsK45).symm, rfl, (by first | (cbv; done) | ((repeat (cbv; simp only [c25, c44])); try cbv))⟩
    ·replace hsK45 := cF c44 hsK45
     refine zt rfl (by first | rfl | simp only [c25, c44, zqa, zqb, zqc, zqd]) ?_
     refine zs ?_
     refine zg hT hA {} (by (repeat (cbv; simp only [c25, c44])); try cbv) (lb rfl) ?_
     refine nT ?_
     refine zr ?_
     refine rB ?_
     refine rT ?_
     refine rT ?_
     refine exL hsK45 fun hx => ?_
     subst hx
     refine oxR ?_
     replace hkK45 := (eR (hK45 _ hkK45))
     refine rB ?_
     refine rT ?_
     cases soI hkK45
     exact ⟨rfl, rfl, rfl, lb rfl, _, rfl⟩
   ·replace hsK45 := cF c25 hsK45
    refine zf rfl (by first | rfl | simp only [c25, zqa, zqb, zqc, zqd]) ?_
    refine AWp.exit ?_
    refine xT ?_
    refine xT ?_
    refine exL hsK45 fun hx => ?_
    subst hx
    exact oxI ⟨rfl, hkK45, (by first | (cbv; done) | ((repeat (cbv; simp only [c25])); try cbv))⟩
  ·rintro _ ⟨hkK45, rfl⟩
   have h := (eL (hK45 _ hkK45))
   refine xB ?_
   refine nT (zs ?_)
   refine zg hT hA {} (by cbv) (lb rfl) ?_
   refine nT ?_
   refine zr ?_
   cases soI h
   exact ⟨rfl, rfl, rfl, lb rfl, _, rfl⟩
 ·replace h := cF c3 h
  refine zt rfl (by first | rfl | simp only [c3, zqa, zqb, zqc, zqd]) ?_
  refine zs ?_
  refine zg hT hA {} (by (repeat (cbv; simp only [c3])); try cbv) (lb rfl) ?_
  refine nT ?_
  refine zr ?_
  refine rT ?_
  cases soI h
  exact ⟨rfl, rfl, rfl, lb rfl, _, rfl⟩

theorem C54w {A : Ar} (hA : A = Ar.std) {x1 v12 : List D} (h : C54 A x1 = some v12) : ACall Try.prog 54 [(zl 1 x1)] [] (.own 1 v12) [] := by
 unfold C54 at h
 refine ACall.enter hT (fn := Try.f54) Try.func54 rfl (by decide) (by simp [Try.f54]) rfl rfl rfl rfl (lb rfl) ?_
 refine zs ?_
 refine zg hT hA {} (by cbv) (lb rfl) ?_
 refine nT (zs (zs ?_))
 rcases tf (A.zlt 0 (A.len x1)) with c2 | c2
 ·replace h := cT c2 h
  refine zg hT hA {} (by (repeat (cbv; simp only [c2])); try cbv) (lb rfl) ?_
  refine nT ?_
  refine AWp.cond (b := false) (by cbv; simp only [c2]) ?_
  rw [if_neg Bool.false_ne_true]
  refine zk ?_
  refine nT (zs ?_)
  obtain ⟨l4, e5, h⟩ := bindS h
  obtain ⟨f6, f7⟩ := apI e5
  refine zg hT hA { tk := [7] } (by (repeat (cbv; simp only [c2, f6, f7])); try cbv) (lb rfl) ?_
  refine nT ?_
  refine zr ?_
  cases soI h
  exact ⟨rfl, rfl, rfl, lb rfl, _, rfl⟩
 ·replace h := cF c2 h
  refine zg hT hA {} (by (repeat (cbv; simp only [c2])); try cbv) (lb rfl) ?_
  refine nT ?_
  obtain ⟨hc3a, hc3b⟩ := bothI h
  refine AWp.condAny (by cbv; simp only [c2]) ?_ ?_
  ·replace h := hc3a
   refine zs ?_
   refine zg hT hA {} (by (repeat (cbv; simp only [c2])); try cbv) (lb rfl) ?_
   refine nT ?_
   refine zr ?_
   refine rT ?_
   cases soI h
   exact ⟨rfl, rfl, rfl, lb rfl, _, rfl⟩
  ·replace h := hc3b
   refine zk ?_
   refine nT (zs ?_)
   obtain ⟨l8, e9, h⟩ := bindS h
   obtain ⟨f10, f11⟩ := apI e9
   refine zg hT hA { tk := [7] } (by (repeat (cbv; simp only [c2, f10, f11])); try cbv) (lb rfl) ?_
   refine nT ?_
   refine zr ?_
   cases soI h
   exact ⟨rfl, rfl, rfl, lb rfl, _, rfl⟩

theorem C113w {A : Ar} (hA : A = Ar.std) {x1 x2 : Int} {x3 x4 x5 : List D} {x6 : Int} {v62 : Bool} (h : C113 A x1 x2 x3 x4 x5 x6 = some v62) : ACall Try.prog 113 [(.d (.agg [(.int .i64 x1), (.int .i64 x2), (.list 1 x3), (.list 1 x4)])), (zl 1 x5), (zi x6)] [] (.d (.bool v62)) [] := by
 unfold C113 at h
 refine ACall.enter hT (fn := Try.f113) Try.func113 rfl (by decide) (by simp [Try.f113]) rfl rfl rfl rfl (lb rfl) ?_
 refine zs ?_
 refine zg hT hA {} (by cbv) (lb rfl) ?_
 refine nT (zs (zs ?_))
 refine zg hT hA {} (by cbv) (lb rfl) ?_
 refine nT ?_
 rcases tf (A.zeq (A.len x5) x1) with c7 | c7
 ·replace h := cT c7 h
  refine zf rfl (by first | rfl | simp only [c7, zqa, zqb, zqc, zqd]) ?_
  refine zk ?_
  refine nT (zs (zs ?_))
  refine zg hT hA {} (by (repeat (cbv; simp only [c7])); try cbv) (lb rfl) ?_
  refine nT (zb ?_)
  obtain ⟨xK61, hxK61, K61, hK61, hkK61⟩ := bindK h
  refine AWp.cutX 0 [] [] 0 (lb rfl) (fun τ => K61 (.inl ()) = some v62 ∧ τ = { env := [], heap := [], n := 42 }) ?_ ?_
  ·skip
   refine AWp.iter hxK61 [2, 3, 16, 17, 18] [] 0 (lb rfl) (fun v34 => { env := [(2, (zi x6)), (3, (.lbox [(zi x1), (zi x2), (zl 1 x3), (zl 1 x4)])), (16, (zl 1 x5)), (17, (.d (.int .i64 (A.len x5)))), (18, (zi v34))], heap := [], n := 42 }) ⟨rfl, (by first | (cbv; done) | ((repeat (cbv; simp only [c7])); try cbv))⟩ ?_
   rintro v34 eK61 hsK61
   dsimp only [C113L1] at hsK61
   refine zs ?_
   refine zg hT hA {} (by cbv) (lb rfl) ?_
   refine nT (zs ?_)
   rcases tf (A.zlt v34 (A.len x5)) with c35 | c35
   ·replace hsK61 := cT c35 hsK61
    refine zt rfl (by first | rfl | simp only [c35, zqa, zqb, zqc, zqd]) ?_
    refine zk ?_
    refine nT (zs (zb (zs ?_)))
    obtain ⟨a36, e37, hsK61⟩ := bindS hsK61
    obtain ⟨f38, f39⟩ := gtI e37
    refine zg hT hA {} (by (repeat (cbv; simp only [c35, f38, f39])); try cbv) (lb rfl) ?_
    refine nT (zs (zs ?_))
    refine zg hT hA {} (by (repeat (cbv; simp only [c35])); try cbv) (lb rfl) ?_
    refine nT ?_
    rcases tf (A.zeq (A.len a36) x2) with c40 | c40
    ·replace hsK61 := cT c40 hsK61
     refine zf rfl (by first | rfl | simp only [c35, c40, zqa, zqb, zqc, zqd]) ?_
     refine zk ?_
     refine nT (zs ?_)
     refine zg hT hA {} (by (repeat (cbv; simp only [c35, c40])); try cbv) (lb rfl) ?_
     refine nT (zb ?_)
     obtain ⟨xK60, hxK60, K60, hK60, hkK60⟩ := bindK hsK61
     refine AWp.cutX 2 [2, 3, 16, 17, 18] [] 0 (lb rfl) (fun τ => K60 (.inl ()) = some eK61 ∧ τ = { env := [(2, (zi x6)), (3, (.lbox [(zi x1), (zi x2), (zl 1 x3), (zl 1 x4)])), (16, (zl 1 x5)), (17, (.d (.int .i64 (A.len x5)))), (18, (zi v34))], heap := [], n := 42 }) ?_ ?_
     ·skip
      refine AWp.iter hxK60 [2, 3, 16, 17, 18, 27, 28, 29] [] 0 (lb rfl) (fun v50 => { env := [(2, (zi x6)), (3, (.lbox [(zi x1), (zi x2), (zl 1 x3), (zl 1 x4)])), (16, (zl 1 x5)), (17, (.d (.int .i64 (A.len x5)))), (18, (zi v34)), (27, (zl 1 a36)), (28, (.d (.int .i64 (A.len a36)))), (29, (zi v50))], heap := [], n := 42 }) ⟨rfl, (by first | (cbv; done) | ((repeat (cbv; simp only [c35, c40])); try cbv))⟩ ?_
      rintro v50 eK60 hsK60
      dsimp only [C113L0] at hsK60
      refine zs ?_
      refine zg hT hA {} (by cbv) (lb rfl) ?_
      refine nT (zs ?_)
      rcases tf (A.zlt v50 (A.len a36)) with c51 | c51
      ·replace hsK60 := cT c51 hsK60
       refine zt rfl (by first | rfl | simp only [c51, zqa, zqb, zqc, zqd]) ?_
       refine zk ?_
       refine nT (zs (zb (zs ?_)))
       obtain ⟨a52, e53, hsK60⟩ := bindS hsK60
       obtain ⟨f54, f55⟩ := gtI e53
       refine zg hT hA {} (by (repeat (cbv; simp only [c51, f54, f55])); try cbv) (lb rfl) ?_
       refine nT (zs ?_)
       obtain ⟨v57, hvK58, hsK60⟩ := bindS hsK60
       refine AWp.cutN [2, 3, 16, 17, 18, 27, 28, 29, 39] [] 0 (lb rfl) (fun τ => τ = { env := [(2, (zi x6)), (3, (.lbox [(zi x1), (zi x2), (zl 1 x3), (zl 1 x4)])), (16, (zl 1 x5)), (17, (.d (.int .i64 (A.len x5)))), (18, (zi v34)), (27, (zl 1 a36)), (28, (.d (.int .i64 (A.len a36)))), (29, (zi v50)), (39, (.d (.bool v57)))], heap := [], n := 42 }) ?_ ?_
       ·skip
        rcases tf (A.zlt a52 0) with c56 | c56
        ·replace hvK58 := cT c56 hvK58
         refine zg hT hA {} (by (repeat (cbv; simp only [c51, c56])); try cbv) (lb rfl) ?_
         cases soI hvK58
         exact oNi ⟨rfl, (by first | (cbv; done) | ((repeat (cbv; simp only [c51, c56])); try cbv))⟩
        ·replace hvK58 := cF c56 hvK58
         refine zg hT hA {} (by (repeat (cbv; simp only [c51, c56])); try cbv) (lb rfl) ?_
         cases soI hvK58
         exact oNi ⟨rfl, (by first | (cbv; done) | ((repeat (cbv; simp only [c51, c56])); try cbv))⟩
       ·rintro _ rfl
        refine nT ?_
        rcases tf v57 with c59 | c59
        ·replace hsK60 := cT c59 hsK60
         refine zt rfl (by first | rfl | simp only [c59, zqa, zqb, zqc, zqd]) ?_
         refine zs ?_
         refine zg hT hA {} (by (repeat (cbv; simp only [c59])); try cbv) (lb rfl) ?_
         refine nT ?_
         refine zr ?_
         refine rB ?_
         refine rT ?_
         refine rT ?_
         refine exL hsK60 fun hx => ?_
         subst hx
         refine oxR ?_
         replace hkK60 := (eR (hK60 _ hkK60))
         refine rB ?_
         refine rB ?_
         refine rT ?_
         refine rT ?_
         refine exL hkK60 fun hx => ?_
         subst hx
         refine oxR ?_
         replace hkK61 := (eR (hK61 _ hkK61))
         refine rB ?_
         refine rT ?_
         cases soI hkK61
         exact ⟨rfl, rfl, rfl, lb rfl, _, rfl⟩
        ·replace hsK60 := cF c59 hsK60
         refine zf rfl (by first | rfl | simp only [c59, zqa, zqb, zqc, zqd]) ?_
         refine zk ?_
         refine nB ?_
         refine nT ?_
         refine zg hT hA {} (by (repeat (cbv; simp only [c59])); try cbv) (lb rfl) ?_
         exact nT ⟨_, (soI hsK60).symm, rfl, (by first | (cbv; done) | ((repeat (cbv; simp only [c59])); try cbv))⟩
      ·replace hsK60 := cF c51 hsK60
       refine zf rfl (by first | rfl | simp only [c51, zqa, zqb, zqc, zqd]) ?_
       refine AWp.exit ?_
       refine xT ?_
       refine xT ?_
       refine exL hsK60 fun hx => ?_
       subst hx
       exact oxI ⟨rfl, hkK60, (by first | (cbv; done) | ((repeat (cbv; simp only [c51])); try cbv))⟩
     ·rintro _ ⟨hkK60, rfl⟩
      have hsK61 := (eL (hK60 _ hkK60))
      refine xB ?_
      refine nB ?_
      refine nT ?_
      refine zg hT hA {} (by cbv) (lb rfl) ?_
      exact nT ⟨_, (soI hsK61).symm, rfl, (by cbv)⟩
    ·replace hsK61 := cF c40 hsK61
     refine zt rfl (by first | rfl | simp only [c35, c40, zqa, zqb, zqc, zqd]) ?_
     refine zs ?_
     refine zg hT hA {} (by (repeat (cbv; simp only [c35, c40])); try cbv) (lb rfl) ?_
     refine nT ?_
     refine zr ?_
     refine rT ?_
     refine rB ?_
     refine rT ?_
     refine rT ?_
     refine exL hsK61 fun hx => ?_
     subst hx
     refine oxR ?_
     replace hkK61 := (eR (hK61 _ hkK61))
     refine rB ?_
     refine rT ?_
     cases soI hkK61
     exact ⟨rfl, rfl, rfl, lb rfl, _, rfl⟩
   ·replace hsK61 := cF c35 hsK61
    refine zf rfl (by first | rfl | simp only [c35, zqa, zqb, zqc, zqd]) ?_
    refine AWp.exit ?_
    refine xT ?_
    refine xT ?_
    refine exL hsK61 fun hx => ?_
    subst hx
    exact oxI ⟨rfl, hkK61, (by first | (cbv; done) | ((repeat (cbv; simp only [c35])); try cbv))⟩
  ·rintro _ ⟨hkK61, rfl⟩
   have h := (eL (hK61 _ hkK61))
   refine xB ?_
   refine nT (zs ?_)
   refine zg hT hA {} (by cbv) (lb rfl) ?_
   refine nT ?_
   refine zr ?_
   cases soI h
   exact ⟨rfl, rfl, rfl, lb rfl, _, rfl⟩
 ·replace h := cF c7 h
  refine zt rfl (by first | rfl | simp only [c7, zqa, zqb, zqc, zqd]) ?_
  refine zs ?_
  refine zg hT hA {} (by (repeat (cbv; simp only [c7])); try cbv) (lb rfl) ?_
  refine nT ?_
  refine zr ?_
  refine rT ?_
  cases soI h
  exact ⟨rfl, rfl, rfl, lb rfl, _, rfl⟩

theorem C58w {A : Ar} (hA : A = Ar.std) {x1 x2 : Int} {x3 x4 : List D} {v16 : Bool} (h : C58 A x1 x2 x3 x4 = some v16) : ACall Try.prog 58 [(.d (.agg [(.int .i64 x1), (.int .i64 x2), (.list 1 x3), (.list 1 x4)]))] [] (.d (.bool v16)) [] := by
 unfold C58 at h
 refine ACall.enter hT (fn := Try.f58) Try.func58 rfl (by decide) (by simp [Try.f58]) rfl rfl rfl rfl (lb rfl) ?_
 refine zs ?_
 refine zg hT hA {} (by cbv) (lb rfl) ?_
 refine nT (zs ?_)
 obtain ⟨v14, hvK15, h⟩ := bindS h
 refine AWp.cutN [2] [] 0 (lb rfl) (fun τ => τ = { env := [(2, (.d (.bool v14)))], heap := [], n := 35 }) ?_ ?_
 ·skip
  refine zn ?_
  rcases tf (A.zle 1 x1) with c5 | c5
  ·replace hvK15 := cT c5 hvK15
   rcases tf (A.zle x1 8) with c6 | c6
   ·replace hvK15 := cT c6 hvK15
    rcases tf (A.zle 1 x2) with c7 | c7
    ·replace hvK15 := cT c7 hvK15
     rcases tf (A.zle x2 4) with c8 | c8
     ·replace hvK15 := cT c8 hvK15
      obtain ⟨r10, e9, hvK15⟩ := bindS hvK15
      refine AOps.cc hT hA { tk := [34] } (by (repeat (cbv; simp only [c5, c6, c7, c8])); try cbv) (lb rfl) (C113w hA e9) rfl (.inl rfl) rfl rfl rfl (lb rfl) rfl rfl ?_
      rcases tf r10 with c11 | c11
      ·replace hvK15 := cT c11 hvK15
       obtain ⟨r13, e12, hvK15⟩ := bindS hvK15
       refine AOps.cc hT hA { tk := [34] } (by (repeat (cbv; simp only [c5, c6, c7, c8, c11])); try cbv) (lb rfl) (C113w hA e12) rfl (.inl rfl) rfl rfl rfl (lb rfl) rfl rfl ?_
       refine AOps.cd hT hA { tk := [34] } (by (repeat (cbv; simp only [c5, c6, c7, c8, c11])); try cbv) (lb rfl) ?_
       cases soI hvK15
       exact oNi ⟨rfl, (by first | (cbv; done) | ((repeat (cbv; simp only [c5, c6, c7, c8, c11])); try cbv))⟩
      ·replace hvK15 := cF c11 hvK15
       refine AOps.cd hT hA { tk := [34] } (by (repeat (cbv; simp only [c5, c6, c7, c8, c11])); try cbv) (lb rfl) ?_
       cases soI hvK15
       exact oNi ⟨rfl, (by first | (cbv; done) | ((repeat (cbv; simp only [c5, c6, c7, c8, c11])); try cbv))⟩
     ·replace hvK15 := cF c8 hvK15
      refine AOps.cd hT hA { tk := [34] } (by (repeat (cbv; simp only [c5, c6, c7, c8])); try cbv) (lb rfl) ?_
      cases soI hvK15
      exact oNi ⟨rfl, (by first | (cbv; done) | ((repeat (cbv; simp only [c5, c6, c7, c8])); try cbv))⟩
    ·replace hvK15 := cF c7 hvK15
     refine AOps.cd hT hA { tk := [34] } (by (repeat (cbv; simp only [c5, c6, c7])); try cbv) (lb rfl) ?_
     cases soI hvK15
     exact oNi ⟨rfl, (by first | (cbv; done) | ((repeat (cbv; simp only [c5, c6, c7])); try cbv))⟩
   ·replace hvK15 := cF c6 hvK15
    refine AOps.cd hT hA { tk := [34] } (by (repeat (cbv; simp only [c5, c6])); try cbv) (lb rfl) ?_
    cases soI hvK15
    exact oNi ⟨rfl, (by first | (cbv; done) | ((repeat (cbv; simp only [c5, c6])); try cbv))⟩
  ·replace hvK15 := cF c5 hvK15
   refine AOps.cd hT hA { tk := [34] } (by (repeat (cbv; simp only [c5])); try cbv) (lb rfl) ?_
   cases soI hvK15
   exact oNi ⟨rfl, (by first | (cbv; done) | ((repeat (cbv; simp only [c5])); try cbv))⟩
 ·rintro _ rfl
  refine nT ?_
  refine zr ?_
  cases soI h
  exact ⟨rfl, rfl, rfl, lb rfl, _, rfl⟩

theorem C23w {A : Ar} (hA : A = Ar.std) {x1 x2 : Int} {x3 x4 x5 x6 : List D} {v21 : Bool} (h : C23 A x1 x2 x3 x4 x5 x6 = some v21) : ACall Try.prog 23 [(.d (.agg [(.int .i64 x1), (.int .i64 x2), (.list 1 x3), (.list 1 x4), (.list 1 x5), (.list 1 x6)]))] [] (.d (.bool v21)) [] := by
 unfold C23 at h
 refine ACall.enter hT (fn := Try.f23) Try.func23 rfl (by decide) (by simp [Try.f23]) rfl rfl rfl rfl (lb rfl) ?_
 refine zs ?_
 refine zg hT hA {} (by cbv) (lb rfl) ?_
 refine nT (zs ?_)
 obtain ⟨v19, hvK20, h⟩ := bindS h
 refine AWp.cutN [2] [] 0 (lb rfl) (fun τ => τ = { env := [(2, (.d (.bool v19)))], heap := [], n := 32 }) ?_ ?_
 ·skip
  refine zn ?_
  obtain ⟨r8, e7, hvK20⟩ := bindS hvK20
  refine AOps.cc hT hA { tk := [31] } (by cbv) (lb rfl) (C9w hA e7) rfl (.inl rfl) rfl rfl rfl (lb rfl) rfl rfl ?_
  rcases tf r8 with c9 | c9
  ·replace hvK20 := cT c9 hvK20
   refine AOps.cd hT hA { tk := [31] } (by (repeat (cbv; simp only [c9])); try cbv) (lb rfl) ?_
   cases soI hvK20
   exact oNi ⟨rfl, (by first | (cbv; done) | ((repeat (cbv; simp only [c9])); try cbv))⟩
  ·replace hvK20 := cF c9 hvK20
   obtain ⟨r11, e10, hvK20⟩ := bindS hvK20
   refine AOps.cc hT hA { tk := [31] } (by (repeat (cbv; simp only [c9])); try cbv) (lb rfl) (C16w hA e10) rfl (.inl rfl) rfl rfl rfl (lb rfl) rfl rfl ?_
   rcases tf r11 with c12 | c12
   ·replace hvK20 := cT c12 hvK20
    obtain ⟨r14, e13, hvK20⟩ := bindS hvK20
    refine AOps.cc hT hA { tk := [31] } (by (repeat (cbv; simp only [c9, c12])); try cbv) (lb rfl) (C58w hA e13) rfl (.inl rfl) rfl rfl rfl (lb rfl) rfl rfl ?_
    rcases tf r14 with c15 | c15
    ·replace hvK20 := cT c15 hvK20
     rcases tf (A.zeq x2 (A.len x5)) with c16 | c16
     ·replace hvK20 := cT c16 hvK20
      obtain ⟨r18, e17, hvK20⟩ := bindS hvK20
      refine AOps.cc hT hA { tk := [31] } (by (repeat (cbv; simp only [c9, c12, c15, c16])); try cbv) (lb rfl) (C43w hA e17) rfl (.inl rfl) rfl rfl rfl (lb rfl) rfl rfl ?_
      refine AOps.cd hT hA { tk := [31] } (by (repeat (cbv; simp only [c9, c12, c15, c16])); try cbv) (lb rfl) ?_
      cases soI hvK20
      exact oNi ⟨rfl, (by first | (cbv; done) | ((repeat (cbv; simp only [c9, c12, c15, c16])); try cbv))⟩
     ·replace hvK20 := cF c16 hvK20
      refine AOps.cd hT hA { tk := [31] } (by (repeat (cbv; simp only [c9, c12, c15, c16])); try cbv) (lb rfl) ?_
      cases soI hvK20
      exact oNi ⟨rfl, (by first | (cbv; done) | ((repeat (cbv; simp only [c9, c12, c15, c16])); try cbv))⟩
    ·replace hvK20 := cF c15 hvK20
     refine AOps.cd hT hA { tk := [31] } (by (repeat (cbv; simp only [c9, c12, c15])); try cbv) (lb rfl) ?_
     cases soI hvK20
     exact oNi ⟨rfl, (by first | (cbv; done) | ((repeat (cbv; simp only [c9, c12, c15])); try cbv))⟩
   ·replace hvK20 := cF c12 hvK20
    refine AOps.cd hT hA { tk := [31] } (by (repeat (cbv; simp only [c9, c12])); try cbv) (lb rfl) ?_
    cases soI hvK20
    exact oNi ⟨rfl, (by first | (cbv; done) | ((repeat (cbv; simp only [c9, c12])); try cbv))⟩
 ·rintro _ rfl
  refine nT ?_
  refine zr ?_
  cases soI h
  exact ⟨rfl, rfl, rfl, lb rfl, _, rfl⟩

theorem C81w {A : Ar} (hA : A = Ar.std) {x1 v12 : List D} (h : C81 A x1 = some v12) : ACall Try.prog 81 [(zl 4 x1)] [] (.own 4 v12) [] := by
 unfold C81 at h
 refine ACall.enter hT (fn := Try.f81) Try.func81 rfl (by decide) (by simp [Try.f81]) rfl rfl rfl rfl (lb rfl) ?_
 refine zs ?_
 refine zg hT hA {} (by cbv) (lb rfl) ?_
 refine nT (zs (zs ?_))
 rcases tf (A.zlt 0 (A.len x1)) with c2 | c2
 ·replace h := cT c2 h
  refine zg hT hA {} (by (repeat (cbv; simp only [c2])); try cbv) (lb rfl) ?_
  refine nT ?_
  refine AWp.cond (b := false) (by cbv; simp only [c2]) ?_
  rw [if_neg Bool.false_ne_true]
  refine zk ?_
  refine nT (zs ?_)
  obtain ⟨l4, e5, h⟩ := bindS h
  obtain ⟨f6, f7⟩ := apI e5
  refine zg hT hA { tk := [7] } (by (repeat (cbv; simp only [c2, f6, f7])); try cbv) (lb rfl) ?_
  refine nT ?_
  refine zr ?_
  cases soI h
  exact ⟨rfl, rfl, rfl, lb rfl, _, rfl⟩
 ·replace h := cF c2 h
  refine zg hT hA {} (by (repeat (cbv; simp only [c2])); try cbv) (lb rfl) ?_
  refine nT ?_
  obtain ⟨hc3a, hc3b⟩ := bothI h
  refine AWp.condAny (by cbv; simp only [c2]) ?_ ?_
  ·replace h := hc3a
   refine zs ?_
   refine zg hT hA {} (by (repeat (cbv; simp only [c2])); try cbv) (lb rfl) ?_
   refine nT ?_
   refine zr ?_
   refine rT ?_
   cases soI h
   exact ⟨rfl, rfl, rfl, lb rfl, _, rfl⟩
  ·replace h := hc3b
   refine zk ?_
   refine nT (zs ?_)
   obtain ⟨l8, e9, h⟩ := bindS h
   obtain ⟨f10, f11⟩ := apI e9
   refine zg hT hA { tk := [7] } (by (repeat (cbv; simp only [c2, f10, f11])); try cbv) (lb rfl) ?_
   refine nT ?_
   refine zr ?_
   cases soI h
   exact ⟨rfl, rfl, rfl, lb rfl, _, rfl⟩

theorem C80w {A : Ar} (hA : A = Ar.std) {x1 x2 x3 : Int} {x4 v17 : List D} (h : C80 A x1 x2 x3 x4 = some v17) : ACall Try.prog 80 [(.eptr 0 4 x1 2), (.iptr [(.int .i64 x2)]), (.iptr [(.int .i64 x3)])] [(.arr 4 x4)] (.tuple []) [(.arr 4 v17)] := by
 unfold C80 at h
 refine ACall.enter hT (fn := Try.f80) Try.func80 rfl (by decide) (by simp [Try.f80]) rfl rfl rfl rfl (lb rfl) ?_
 refine zs ?_
 obtain ⟨⟨a5, a6, a7, a8⟩, e9, h⟩ := bindS h
 have f10 := gcI e9
 refine zg hT hA {} (by (repeat (cbv; simp only [f10])); try cbv) (lb rfl) ?_
 refine nT (zb (zs ?_))
 refine zg hT hA {} (by cbv) (lb rfl) ?_
 refine nT ?_
 obtain ⟨v15, hvK16, h⟩ := bindS h
 refine AWp.cutN [] [] 1 (lb rfl) (fun τ => τ = { env := [], heap := [(.arr 4 v15)], n := 19 }) ?_ ?_
 ·skip
  rcases tf (A.zeq a7 x2) with c11 | c11
  ·replace hvK16 := cT c11 hvK16
   refine zt rfl (by first | rfl | simp only [c11, zqa, zqb, zqc, zqd]) ?_
   refine zg hT hA { tk := [11] } (by (repeat (cbv; simp only [c11, f10])); try cbv) (lb rfl) ?_
   cases soI hvK16
   exact oNi ⟨rfl, (by first | (cbv; done) | ((repeat (cbv; simp only [c11])); try cbv))⟩
  ·replace hvK16 := cF c11 hvK16
   refine zf rfl (by first | rfl | simp only [c11, zqa, zqb, zqc, zqd]) ?_
   refine zs ?_
   refine zg hT hA {} (by (repeat (cbv; simp only [c11])); try cbv) (lb rfl) ?_
   refine nT ?_
   obtain ⟨v13, hvK14, hvK16⟩ := bindS hvK16
   refine AWp.cutN [] [] 1 (lb rfl) (fun τ => τ = { env := [], heap := [(.arr 4 v13)], n := 19 }) ?_ ?_
   ·skip
    rcases tf (A.zeq a7 x3) with c12 | c12
    ·replace hvK14 := cT c12 hvK14
     refine zt rfl (by first | rfl | simp only [c11, c12, zqa, zqb, zqc, zqd]) ?_
     refine zg hT hA { tk := [17] } (by (repeat (cbv; simp only [c11, c12, f10])); try cbv) (lb rfl) ?_
     cases soI hvK14
     exact oNi ⟨rfl, (by first | (cbv; done) | ((repeat (cbv; simp only [c11, c12])); try cbv))⟩
    ·replace hvK14 := cF c12 hvK14
     refine zf rfl (by first | rfl | simp only [c11, c12, zqa, zqb, zqc, zqd]) ?_
     refine zk ?_
     cases soI hvK14
     exact oNi ⟨rfl, (by first | (cbv; done) | ((repeat (cbv; simp only [c11, c12])); try cbv))⟩
   ·rintro _ rfl
    cases soI hvK16
    exact oNi ⟨rfl, (by cbv)⟩
 ·rintro _ rfl
  refine nB ?_
  cases soI h
  exact ⟨rfl, rfl, rfl, lb rfl, _, rfl⟩

theorem C80aw {A : Ar} (hA : A = Ar.std) {x1 x2 x3 : Int} {x4 v17 : List D} (h : C80a A x1 x2 x3 x4 = some v17) : ACall Try.prog 80 [(.eptr 0 4 x1 1), (.iptr [(.int .i64 x2)]), (.iptr [(.int .i64 x3)])] [(.arr 4 x4)] (.tuple []) [(.arr 4 v17)] := by
 unfold C80a at h
 refine ACall.enter hT (fn := Try.f80) Try.func80 rfl (by decide) (by simp [Try.f80]) rfl rfl rfl rfl (lb rfl) ?_
 refine zs ?_
 obtain ⟨⟨a5, a6, a7, a8⟩, e9, h⟩ := bindS h
 have f10 := gcI e9
 refine zg hT hA {} (by (repeat (cbv; simp only [f10])); try cbv) (lb rfl) ?_
 refine nT (zb (zs ?_))
 refine zg hT hA {} (by cbv) (lb rfl) ?_
 refine nT ?_
 obtain ⟨v15, hvK16, h⟩ := bindS h
 refine AWp.cutN [] [] 1 (lb rfl) (fun τ => τ = { env := [], heap := [(.arr 4 v15)], n := 19 }) ?_ ?_
 ·skip
  rcases tf (A.zeq a6 x2) with c11 | c11
  ·replace hvK16 := cT c11 hvK16
   refine zt rfl (by first | rfl | simp only [c11, zqa, zqb, zqc, zqd]) ?_
   refine zg hT hA { tk := [11] } (by (repeat (cbv; simp only [c11, f10])); try cbv) (lb rfl) ?_
   cases soI hvK16
   exact oNi ⟨rfl, (by first | (cbv; done) | ((repeat (cbv; simp only [c11])); try cbv))⟩
  ·replace hvK16 := cF c11 hvK16
   refine zf rfl (by first | rfl | simp only [c11, zqa, zqb, zqc, zqd]) ?_
   refine zs ?_
   refine zg hT hA {} (by (repeat (cbv; simp only [c11])); try cbv) (lb rfl) ?_
   refine nT ?_
   obtain ⟨v13, hvK14, hvK16⟩ := bindS hvK16
   refine AWp.cutN [] [] 1 (lb rfl) (fun τ => τ = { env := [], heap := [(.arr 4 v13)], n := 19 }) ?_ ?_
   ·skip
    rcases tf (A.zeq a6 x3) with c12 | c12
    ·replace hvK14 := cT c12 hvK14
     refine zt rfl (by first | rfl | simp only [c11, c12, zqa, zqb, zqc, zqd]) ?_
     refine zg hT hA { tk := [17] } (by (repeat (cbv; simp only [c11, c12, f10])); try cbv) (lb rfl) ?_
     cases soI hvK14
     exact oNi ⟨rfl, (by first | (cbv; done) | ((repeat (cbv; simp only [c11, c12])); try cbv))⟩
    ·replace hvK14 := cF c12 hvK14
     refine zf rfl (by first | rfl | simp only [c11, c12, zqa, zqb, zqc, zqd]) ?_
     refine zk ?_
     cases soI hvK14
     exact oNi ⟨rfl, (by first | (cbv; done) | ((repeat (cbv; simp only [c11, c12])); try cbv))⟩
   ·rintro _ rfl
    cases soI hvK16
    exact oNi ⟨rfl, (by cbv)⟩
 ·rintro _ rfl
  refine nB ?_
  cases soI h
  exact ⟨rfl, rfl, rfl, lb rfl, _, rfl⟩

theorem C29w {A : Ar} (hA : A = Ar.std) {x1 : List D} {x2 x3 : Int} {v157 : List D} {v158 : Int} (h : C29 A x1 x2 x3 = some (v157, v158)) : ACall Try.prog 29 [(zl 1 x1), (zi x2), (zi x3)] [] (.tuple [(zl 1 v157), (zi v158)]) [] := by
 unfold C29 at h
 refine ACall.enter hT (fn := Try.f29) Try.func29 rfl (by decide) (by simp [Try.f29]) rfl rfl rfl rfl (lb rfl) ?_
 refine zs ?_
 refine zg hT hA {} (by cbv) (lb rfl) ?_
 refine nT ?_
 refine AWp.freezeBox 4 [(.int .i64 x2)] rfl rfl ?_
 refine AWp.freezeBox 5 [(.int .i64 x3)] rfl rfl ?_
 refine zs (zb (zs (zn ?_)))
 obtain ⟨r5, e4, h⟩ := bindS h
 refine AOps.cc hT hA {} (by cbv) (lb rfl) (C15w hA e4) rfl (.inl rfl) rfl rfl rfl (lb rfl) rfl rfl ?_
 refine AOps.cd hT hA {} (by cbv) (lb rfl) ?_
 refine nT ?_
 rcases tf r5 with c6 | c6
 ·replace h := cT c6 h
  refine zf rfl (by first | rfl | simp only [c6, zqa, zqb, zqc, zqd]) ?_
  refine zs ?_
  obtain ⟨v12, hvK13, h⟩ := bindS h
  refine AWp.cutN [0, 4, 5, 19] [] 0 (lb rfl) (fun τ => τ = { env := [(0, (zl 1 x1)), (4, (.iptr [(.int .i64 x2)])), (5, (.iptr [(.int .i64 x3)])), (19, (.d (.bool v12)))], heap := [], n := 71 }) ?_ ?_
  ·skip
   refine zn ?_
   obtain ⟨r8, e7, hvK13⟩ := bindS hvK13
   refine AOps.cc hT hA {} (by (repeat (cbv; simp only [c6])); try cbv) (lb rfl) (C79w hA e7) rfl (.inl rfl) rfl rfl rfl (lb rfl) rfl rfl ?_
   rcases tf r8 with c9 | c9
   ·replace hvK13 := cT c9 hvK13
    obtain ⟨r11, e10, hvK13⟩ := bindS hvK13
    refine AOps.cc hT hA {} (by (repeat (cbv; simp only [c6, c9])); try cbv) (lb rfl) (C79w hA e10) rfl (.inl rfl) rfl rfl rfl (lb rfl) rfl rfl ?_
    refine AOps.cd hT hA {} (by (repeat (cbv; simp only [c6, c9])); try cbv) (lb rfl) ?_
    cases soI hvK13
    exact oNi ⟨rfl, (by first | (cbv; done) | ((repeat (cbv; simp only [c6, c9])); try cbv))⟩
   ·replace hvK13 := cF c9 hvK13
    refine AOps.cd hT hA {} (by (repeat (cbv; simp only [c6, c9])); try cbv) (lb rfl) ?_
    cases soI hvK13
    exact oNi ⟨rfl, (by first | (cbv; done) | ((repeat (cbv; simp only [c6, c9])); try cbv))⟩
  ·rintro _ rfl
   refine nT ?_
   rcases tf v12 with c14 | c14
   ·replace h := cT c14 h
    refine zt rfl (by first | rfl | simp only [c14, zqa, zqb, zqc, zqd]) ?_
    refine zs ?_
    refine zg hT hA {} (by (repeat (cbv; simp only [c14])); try cbv) (lb rfl) ?_
    refine nT ?_
    refine zr ?_
    refine rB ?_
    refine rT ?_
    cases soI h
    exact ⟨rfl, rfl, rfl, lb rfl, _, rfl⟩
   ·replace h := cF c14 h
    refine zf rfl (by first | rfl | simp only [c14, zqa, zqb, zqc, zqd]) ?_
    refine zk ?_
    refine nB ?_
    refine nT (zs ?_)
    refine zg hT hA {} (by (repeat (cbv; simp only [c14])); try cbv) (lb rfl) ?_
    refine nT (zs ?_)
    refine zg hT hA {} (by (repeat (cbv; simp only [c14])); try cbv) (lb rfl) ?_
    refine nT (zs (zs ?_))
    refine zg hT hA {} (by (repeat (cbv; simp only [c14])); try cbv) (lb rfl) ?_
    refine nT (zb ?_)
    obtain ⟨xK156, hxK156, K156, hK156, hkK156⟩ := bindK h
    refine AWp.cutX 1 [9] [] 0 (lb rfl) (fun τ => ∃ v155, K156 v155 = some (v157, v158) ∧ τ = { env := [(9, (.own 1 v155))], heap := [], n := 71 }) ?_ ?_
    ·skip
     refine AWp.iter hxK156 [8, 9, 29, 30, 31] [] 0 (lb rfl) (fun (v84, v85) => { env := [(8, (.func 80 [] [(.iptr [(.int .i64 x2)]), (.iptr [(.int .i64 x3)])])), (9, (.own 1 v84)), (29, (zl 1 x1)), (30, (.d (.int .i64 (A.len x1)))), (31, (zi v85))], heap := [], n := 71 }) ⟨rfl, (by first | (cbv; done) | ((repeat (cbv; simp only [c14])); try cbv))⟩ ?_
     rintro ⟨v84, v85⟩ eK156 hsK156
     dsimp only [C29L1] at hsK156
     refine zs ?_
     refine zg hT hA {} (by cbv) (lb rfl) ?_
     refine nT (zs ?_)
     rcases tf (A.zlt v85 (A.len x1)) with c86 | c86
     ·replace hsK156 := cT c86 hsK156
      refine zt rfl (by first | rfl | simp only [c86, zqa, zqb, zqc, zqd]) ?_
      refine zk ?_
      refine nT (zs (zb (zs ?_)))
      obtain ⟨a87, e88, hsK156⟩ := bindS hsK156
      obtain ⟨f89, f90⟩ := gtI e88
      refine zg hT hA {} (by (repeat (cbv; simp only [c86, f89, f90])); try cbv) (lb rfl) ?_
      refine nT (zs (zn ?_))
      obtain ⟨r92, e91, hsK156⟩ := bindS hsK156
      rcases tf (A.zlt 0 (A.len r92)) with c93 | c93
      ·replace hsK156 := cT c93 hsK156
       obtain ⟨_, e94, hsK156⟩ := bindS hsK156
       refine AOps.cc hT hA {} (by (repeat (cbv; simp only [c86])); try cbv) (lb rfl) (ACall.thaw (C81w hA e91) rfl rfl (neL hA c93) (ckI e94) (H := []) rfl (lenL hA)) rfl (.inl rfl) rfl rfl rfl (lb rfl) rfl rfl ?_
       refine AOps.cd hT hA {} (by (repeat (cbv; simp only [c86, c93])); try cbv) (lb rfl) ?_
       refine nT (zs (zs ?_))
       refine zg hT hA {} (by (repeat (cbv; simp only [c86, c93])); try cbv) (lb rfl) ?_
       refine nT (zb ?_)
       obtain ⟨xK146, hxK146, K146, hK146, hkK146⟩ := bindK hsK156
       refine AWp.cutX 3 [8, 9, 12, 29, 30, 31] [] 1 (lb rfl) (fun τ => ∃ v145, K146 v145 = some eK156 ∧ τ = { env := [(8, (.func 80 [] [(.iptr [(.int .i64 x2)]), (.iptr [(.int .i64 x3)])])), (9, (.own 1 v84)), (12, (.mref 0 4 0 (A.len r92))), (29, (zl 1 x1)), (30, (.d (.int .i64 (A.len x1)))), (31, (zi v85))], heap := [(.arr 4 v145)], n := 71 }) ?_ ?_
       ·skip
        refine AWp.iter hxK146 [8, 9, 12, 29, 30, 31, 38, 39] [] 1 (lb rfl) (fun (v119, v120) => { env := [(8, (.func 80 [] [(.iptr [(.int .i64 x2)]), (.iptr [(.int .i64 x3)])])), (9, (.own 1 v84)), (12, (.mref 0 4 0 (A.len r92))), (29, (zl 1 x1)), (30, (.d (.int .i64 (A.len x1)))), (31, (zi v85)), (38, (.d (.int .i64 (A.len r92)))), (39, (zi v119))], heap := [(.arr 4 v120)], n := 71 }) ⟨rfl, (by first | (cbv; done) | ((repeat (cbv; simp only [c86, c93])); try cbv))⟩ ?_
        rintro ⟨v119, v120⟩ eK146 hsK146
        dsimp only [C29L0] at hsK146
        refine zs ?_
        refine zg hT hA {} (by cbv) (lb rfl) ?_
        refine nT (zs ?_)
        rcases tf (A.zlt v119 (A.len r92)) with c121 | c121
        ·replace hsK146 := cT c121 hsK146
         refine zt rfl (by first | rfl | simp only [c121, zqa, zqb, zqc, zqd]) ?_
         refine zk ?_
         refine nT (zs (zb (zs ?_)))
         refine zg hT hA {} (by (repeat (cbv; simp only [c121])); try cbv) (lb rfl) ?_
         refine nT (zs ?_)
         obtain ⟨_, e122, hsK146⟩ := bindS hsK146
         have f124 := ckI e122
         obtain ⟨_, e123, hsK146⟩ := bindS hsK146
         have f125 := ckI e123
         refine zg hT hA {} (by (repeat (cbv; simp only [c121, f124, f125])); try cbv) (lb rfl) ?_
         refine nT (zs ?_)
         obtain ⟨⟨a126, a127, a128, a129⟩, e130, hsK146⟩ := bindS hsK146
         have f131 := gcI e130
         refine zg hT hA {} (by (repeat (cbv; simp only [c121, f131])); try cbv) (lb rfl) ?_
         refine nT (zb (zs ?_))
         refine zg hT hA {} (by (repeat (cbv; simp only [c121])); try cbv) (lb rfl) ?_
         refine nT ?_
         obtain ⟨v143, hvK144, hsK146⟩ := bindS hsK146
         refine AWp.cutN [8, 9, 12, 29, 30, 31, 38, 39] [] 1 (lb rfl) (fun τ => τ = { env := [(8, (.func 80 [] [(.iptr [(.int .i64 x2)]), (.iptr [(.int .i64 x3)])])), (9, (.own 1 v84)), (12, (.mref 0 4 0 (A.len r92))), (29, (zl 1 x1)), (30, (.d (.int .i64 (A.len x1)))), (31, (zi v85)), (38, (.d (.int .i64 (A.len r92)))), (39, (zi v119))], heap := [(.arr 4 v143)], n := 71 }) ?_ ?_
         ·skip
          rcases tf (A.zeq a126 1) with c132 | c132
          ·replace hvK144 := cT c132 hvK144
           refine zt rfl (by first | rfl | simp only [c121, c132, zqa, zqb, zqc, zqd]) ?_
           refine zn ?_
           obtain ⟨r134, e133, hvK144⟩ := bindS hvK144
           refine AOps.cc hT hA {} (by (repeat (cbv; simp only [c121, c132])); try cbv) (lb rfl) (C80w hA e133) rfl (.inl rfl) rfl rfl rfl (lb rfl) rfl rfl ?_
           refine AOps.cd hT hA {} (by (repeat (cbv; simp only [c121, c132])); try cbv) (lb rfl) ?_
           cases soI hvK144
           exact oNi ⟨rfl, (by first | (cbv; done) | ((repeat (cbv; simp only [c121, c132])); try cbv))⟩
          ·replace hvK144 := cF c132 hvK144
           refine zf rfl (by first | rfl | simp only [c121, c132, zqa, zqb, zqc, zqd]) ?_
           refine zs (zs ?_)
           refine zg hT hA {} (by (repeat (cbv; simp only [c121, c132])); try cbv) (lb rfl) ?_
           refine nT ?_
           obtain ⟨v136, hvK137, hvK144⟩ := bindS hvK144
           refine AWp.cutN [8, 9, 12, 14, 29, 30, 31, 38, 39, 56] [] 1 (lb rfl) (fun τ => τ = { env := [(8, (.func 80 [] [(.iptr [(.int .i64 x2)]), (.iptr [(.int .i64 x3)])])), (9, (.own 1 v84)), (12, (.mref 0 4 0 (A.len r92))), (14, (.eptr 0 4 (A.zadd 0 v119) 0)), (29, (zl 1 x1)), (30, (.d (.int .i64 (A.len x1)))), (31, (zi v85)), (38, (.d (.int .i64 (A.len r92)))), (39, (zi v119)), (56, (.d (.bool v136)))], heap := [(.arr 4 v120)], n := 71 }) ?_ ?_
           ·skip
            rcases tf (A.zeq a126 2) with c135 | c135
            ·replace hvK137 := cT c135 hvK137
             refine zt rfl (by first | rfl | simp only [c121, c132, c135, zqa, zqb, zqc, zqd]) ?_
             refine zk ?_
             cases soI hvK137
             exact oNi ⟨rfl, (by first | (cbv; done) | ((repeat (cbv; simp only [c121, c132, c135])); try cbv))⟩
            ·replace hvK137 := cF c135 hvK137
             refine zf rfl (by first | rfl | simp only [c121, c132, c135, zqa, zqb, zqc, zqd]) ?_
             refine zg hT hA {} (by (repeat (cbv; simp only [c121, c132, c135])); try cbv) (lb rfl) ?_
             cases soI hvK137
             exact oNi ⟨rfl, (by first | (cbv; done) | ((repeat (cbv; simp only [c121, c132, c135])); try cbv))⟩
           ·rintro _ rfl
            refine nT ?_
            obtain ⟨v141, hvK142, hvK144⟩ := bindS hvK144
            refine AWp.cutN [8, 9, 12, 29, 30, 31, 38, 39] [] 1 (lb rfl) (fun τ => τ = { env := [(8, (.func 80 [] [(.iptr [(.int .i64 x2)]), (.iptr [(.int .i64 x3)])])), (9, (.own 1 v84)), (12, (.mref 0 4 0 (A.len r92))), (29, (zl 1 x1)), (30, (.d (.int .i64 (A.len x1)))), (31, (zi v85)), (38, (.d (.int .i64 (A.len r92)))), (39, (zi v119))], heap := [(.arr 4 v141)], n := 71 }) ?_ ?_
            ·skip
             rcases tf v136 with c138 | c138
             ·replace hvK142 := cT c138 hvK142
              refine zt rfl (by first | rfl | simp only [c138, zqa, zqb, zqc, zqd]) ?_
              refine zn ?_
              obtain ⟨r140, e139, hvK142⟩ := bindS hvK142
              refine AOps.cc hT hA {} (by (repeat (cbv; simp only [c138])); try cbv) (lb rfl) (C80aw hA e139) rfl (.inl rfl) rfl rfl rfl (lb rfl) rfl rfl ?_
              refine AOps.cd hT hA {} (by (repeat (cbv; simp only [c138])); try cbv) (lb rfl) ?_
              cases soI hvK142
              exact oNi ⟨rfl, (by first | (cbv; done) | ((repeat (cbv; simp only [c138])); try cbv))⟩
             ·replace hvK142 := cF c138 hvK142
              refine zf rfl (by first | rfl | simp only [c138, zqa, zqb, zqc, zqd]) ?_
              refine zk ?_
              cases soI hvK142
              exact oNi ⟨rfl, (by first | (cbv; done) | ((repeat (cbv; simp only [c138])); try cbv))⟩
            ·rintro _ rfl
             cases soI hvK144
             exact oNi ⟨rfl, (by cbv)⟩
         ·rintro _ rfl
          refine nB ?_
          refine nB ?_
          refine nT ?_
          refine zg hT hA {} (by cbv) (lb rfl) ?_
          exact nT ⟨_, (soI hsK146).symm, rfl, (by cbv)⟩
        ·replace hsK146 := cF c121 hsK146
         refine zf rfl (by first | rfl | simp only [c121, zqa, zqb, zqc, zqd]) ?_
         refine AWp.exit ?_
         refine xT ?_
         refine xT ?_
         refine exL hsK146 fun hx => ?_
         subst hx
         exact oxI ⟨rfl, _, hkK146, (by first | (cbv; done) | ((repeat (cbv; simp only [c121])); try cbv))⟩
       ·rintro _ ⟨v145, hkK146, rfl⟩
        have hsK156 := (hK146 _ hkK146)
        refine xB ?_
        refine nT ?_
        obtain ⟨l147, e148, hsK156⟩ := bindS hsK156
        obtain ⟨f149, f150⟩ := fzI hA e148
        refine AWp.freeze (s := 12) (i := 0) rfl rfl f149 f150 ?_
        obtain ⟨l151, e152, hsK156⟩ := bindS hsK156
        obtain ⟨f153, f154⟩ := apI e152
        refine zg hT hA { tk := [9, 68] } (by (repeat (cbv; simp only [f153, f154])); try cbv) (lb rfl) ?_
        refine nB ?_
        refine nT ?_
        refine zg hT hA {} (by cbv) (lb rfl) ?_
        exact nT ⟨_, (soI hsK156).symm, rfl, (by cbv)⟩
      ·replace hsK156 := cF c93 hsK156
       cases hsK156
     ·replace hsK156 := cF c86 hsK156
      refine zf rfl (by first | rfl | simp only [c86, zqa, zqb, zqc, zqd]) ?_
      refine AWp.exit ?_
      refine xT ?_
      refine xT ?_
      refine exL hsK156 fun hx => ?_
      subst hx
      exact oxI ⟨rfl, _, hkK156, (by first | (cbv; done) | ((repeat (cbv; simp only [c86])); try cbv))⟩
    ·rintro _ ⟨v155, hkK156, rfl⟩
     have h := (hK156 _ hkK156)
     refine xB ?_
     refine nT (zs ?_)
     refine zg hT hA {} (by cbv) (lb rfl) ?_
     refine nT ?_
     refine zr ?_
     cases soI h
     exact ⟨rfl, rfl, rfl, lb rfl, _, rfl⟩
 ·replace h := cF c6 h
  refine zt rfl (by first | rfl | simp only [c6, zqa, zqb, zqc, zqd]) ?_
  refine zs ?_
  refine zg hT hA {} (by (repeat (cbv; simp only [c6])); try cbv) (lb rfl) ?_
  refine nT ?_
  refine zr ?_
  refine rB ?_
  refine rT ?_
  cases soI h
  exact ⟨rfl, rfl, rfl, lb rfl, _, rfl⟩

theorem C31w {A : Ar} (hA : A = Ar.std) {x1 x2 : List D} {v94 : Bool} (h : C31 A x1 x2 = some v94) : ACall Try.prog 31 [(zl 1 x1), (zl 1 x2)] [] (.d (.bool v94)) [] := by
 unfold C31 at h
 refine ACall.enter hT (fn := Try.f31) Try.func31 rfl (by decide) (by simp [Try.f31]) rfl rfl rfl rfl (lb rfl) ?_
 refine zs ?_
 refine zg hT hA {} (by cbv) (lb rfl) ?_
 refine nT (zs (zs ?_))
 refine zg hT hA {} (by cbv) (lb rfl) ?_
 refine nT ?_
 rcases tf (A.zeq (A.len x1) (A.len x2)) with c3 | c3
 ·replace h := cT c3 h
  refine zf rfl (by first | rfl | simp only [c3, zqa, zqb, zqc, zqd]) ?_
  refine zk ?_
  refine nT (zs (zs ?_))
  refine zg hT hA {} (by (repeat (cbv; simp only [c3])); try cbv) (lb rfl) ?_
  refine nT (zb ?_)
  obtain ⟨xK93, hxK93, K93, hK93, hkK93⟩ := bindK h
  refine AWp.cutX 0 [] [] 0 (lb rfl) (fun τ => K93 (.inl ()) = some v94 ∧ τ = { env := [], heap := [], n := 53 }) ?_ ?_
  ·skip
   refine AWp.iter hxK93 [0, 1, 5] [] 0 (lb rfl) (fun v48 => { env := [(0, (zl 1 x1)), (1, (zl 1 x2)), (5, (zi v48))], heap := [], n := 53 }) ⟨rfl, (by first | (cbv; done) | ((repeat (cbv; simp only [c3])); try cbv))⟩ ?_
   rintro v48 eK93 hsK93
   dsimp only [C31L1] at hsK93
   refine zs (zs ?_)
   refine zg hT hA {} (by cbv) (lb rfl) ?_
   refine nT ?_
   rcases tf (A.zlt v48 (A.len x1)) with c49 | c49
   ·replace hsK93 := cT c49 hsK93
    refine zt rfl (by first | rfl | simp only [c49, zqa, zqb, zqc, zqd]) ?_
    refine zk ?_
    refine nT (zs (zb (zs (zs ?_))))
    obtain ⟨a50, e51, hsK93⟩ := bindS hsK93
    obtain ⟨f52, f53⟩ := gtI e51
    obtain ⟨a54, e55, hsK93⟩ := bindS hsK93
    obtain ⟨f56, f57⟩ := gtI e55
    refine AWp.rd hT hA {} rfl (by (repeat (cbv; simp only [c49, f52, f53, f56, f57])); try cbv) (by kernel_rfl) (lb rfl) ?_
    refine nT ?_
    rcases tf (A.zeq (A.len a50) (A.len a54)) with c58 | c58
    ·replace hsK93 := cT c58 hsK93
     refine zf rfl (by first | rfl | simp only [c49, c58, zqa, zqb, zqc, zqd]) ?_
     refine zk ?_
     refine nT (zs ?_)
     refine zg hT hA {} (by (repeat (cbv; simp only [c49, c58])); try cbv) (lb rfl) ?_
     refine nT (zb ?_)
     obtain ⟨xK92, hxK92, K92, hK92, hkK92⟩ := bindK hsK93
     refine AWp.cutX 2 [0, 1, 5] [] 0 (lb rfl) (fun τ => K92 (.inl ()) = some eK93 ∧ τ = { env := [(0, (zl 1 x1)), (1, (zl 1 x2)), (5, (zi v48))], heap := [], n := 53 }) ?_ ?_
     ·skip
      refine AWp.iter hxK92 [0, 1, 5, 6] [] 0 (lb rfl) (fun v75 => { env := [(0, (zl 1 x1)), (1, (zl 1 x2)), (5, (zi v48)), (6, (zi v75))], heap := [], n := 53 }) ⟨rfl, (by first | (cbv; done) | ((repeat (cbv; simp only [c49, c58])); try cbv))⟩ ?_
      rintro v75 eK92 hsK92
      dsimp only [C31L0] at hsK92
      refine zs (zs ?_)
      refine zg hT hA {} (by (repeat (cbv; simp only [f52, f53])); try cbv) (lb rfl) ?_
      refine nT ?_
      rcases tf (A.zlt v75 (A.len a50)) with c76 | c76
      ·replace hsK92 := cT c76 hsK92
       refine zt rfl (by first | rfl | simp only [c76, zqa, zqb, zqc, zqd]) ?_
       refine zk ?_
       refine nT (zs (zb (zs ?_)))
       obtain ⟨⟨a77, a78, a79, a80⟩, e81, hsK92⟩ := bindS hsK92
       obtain ⟨f82, f83⟩ := gtI e81
       obtain ⟨⟨a84, a85, a86, a87⟩, e88, hsK92⟩ := bindS hsK92
       obtain ⟨f89, f90⟩ := gtI e88
       refine AWp.rd hT hA {} rfl (by (repeat (cbv; simp only [c76, f52, f53, f82, f83, f56, f57, f89, f90])); try cbv) (by kernel_rfl) (lb rfl) ?_
       refine nT ?_
       rcases tf (A.deq [(.int .i64 a77), (.int .i64 a78), (.int .i64 a79), (.int .i64 a80)] [(.int .i64 a84), (.int .i64 a85), (.int .i64 a86), (.int .i64 a87)]) with c91 | c91
       ·replace hsK92 := cT c91 hsK92
        refine zf rfl (by first | rfl | simp only [c76, c91, zqa, zqb, zqc, zqd]) ?_
        refine zk ?_
        refine nB ?_
        refine nT ?_
        refine zg hT hA {} (by (repeat (cbv; simp only [c76, c91])); try cbv) (lb rfl) ?_
        exact nT ⟨_, (soI hsK92).symm, rfl, (by first | (cbv; done) | ((repeat (cbv; simp only [c76, c91])); try cbv))⟩
       ·replace hsK92 := cF c91 hsK92
        refine zt rfl (by first | rfl | simp only [c76, c91, zqa, zqb, zqc, zqd]) ?_
        refine zs ?_
        refine zg hT hA {} (by (repeat (cbv; simp only [c76, c91])); try cbv) (lb rfl) ?_
        refine nT ?_
        refine zr ?_
        refine rB ?_
        refine rT ?_
        refine rT ?_
        refine exL hsK92 fun hx => ?_
        subst hx
        refine oxR ?_
        replace hkK92 := (eR (hK92 _ hkK92))
        refine rB ?_
        refine rB ?_
        refine rT ?_
        refine rT ?_
        refine exL hkK92 fun hx => ?_
        subst hx
        refine oxR ?_
        replace hkK93 := (eR (hK93 _ hkK93))
        refine rB ?_
        refine rT ?_
        cases soI hkK93
        exact ⟨rfl, rfl, rfl, lb rfl, _, rfl⟩
      ·replace hsK92 := cF c76 hsK92
       refine zf rfl (by first | rfl | simp only [c76, zqa, zqb, zqc, zqd]) ?_
       refine AWp.exit ?_
       refine xT ?_
       refine xT ?_
       refine exL hsK92 fun hx => ?_
       subst hx
       exact oxI ⟨rfl, hkK92, (by first | (cbv; done) | ((repeat (cbv; simp only [c76])); try cbv))⟩
     ·rintro _ ⟨hkK92, rfl⟩
      have hsK93 := (eL (hK92 _ hkK92))
      refine xB ?_
      refine nB ?_
      refine nT ?_
      refine zg hT hA {} (by cbv) (lb rfl) ?_
      exact nT ⟨_, (soI hsK93).symm, rfl, (by cbv)⟩
    ·replace hsK93 := cF c58 hsK93
     refine zt rfl (by first | rfl | simp only [c49, c58, zqa, zqb, zqc, zqd]) ?_
     refine zs ?_
     refine zg hT hA {} (by (repeat (cbv; simp only [c49, c58])); try cbv) (lb rfl) ?_
     refine nT ?_
     refine zr ?_
     refine rT ?_
     refine rB ?_
     refine rT ?_
     refine rT ?_
     refine exL hsK93 fun hx => ?_
     subst hx
     refine oxR ?_
     replace hkK93 := (eR (hK93 _ hkK93))
     refine rB ?_
     refine rT ?_
     cases soI hkK93
     exact ⟨rfl, rfl, rfl, lb rfl, _, rfl⟩
   ·replace hsK93 := cF c49 hsK93
    refine zf rfl (by first | rfl | simp only [c49, zqa, zqb, zqc, zqd]) ?_
    refine AWp.exit ?_
    refine xT ?_
    refine xT ?_
    refine exL hsK93 fun hx => ?_
    subst hx
    exact oxI ⟨rfl, hkK93, (by first | (cbv; done) | ((repeat (cbv; simp only [c49])); try cbv))⟩
  ·rintro _ ⟨hkK93, rfl⟩
   have h := (eL (hK93 _ hkK93))
   refine xB ?_
   refine nT (zs ?_)
   refine zg hT hA {} (by cbv) (lb rfl) ?_
   refine nT ?_
   refine zr ?_
   cases soI h
   exact ⟨rfl, rfl, rfl, lb rfl, _, rfl⟩
 ·replace h := cF c3 h
  refine zt rfl (by first | rfl | simp only [c3, zqa, zqb, zqc, zqd]) ?_
  refine zs ?_
  refine zg hT hA {} (by (repeat (cbv; simp only [c3])); try cbv) (lb rfl) ?_
  refine nT ?_
  refine zr ?_
  refine rT ?_
  cases soI h
  exact ⟨rfl, rfl, rfl, lb rfl, _, rfl⟩

theorem C84w {A : Ar} (hA : A = Ar.std) {x1 : Int} {v4 : Bool} (h : C84 A x1 = some v4) : ACall Try.prog 84 [(zi x1)] [] (.d (.bool v4)) [] := by
 unfold C84 at h
 refine ACall.enter hT (fn := Try.f84) Try.func84 rfl (by decide) (by simp [Try.f84]) rfl rfl rfl rfl (lb rfl) ?_
 refine zs ?_
 refine zg hT hA {} (by cbv) (lb rfl) ?_
 refine nT (zs (zn ?_))
 obtain ⟨r3, e2, h⟩ := bindS h
 refine AOps.cc hT hA { tk := [4] } (by cbv) (lb rfl) (C47w hA e2) rfl (.inl rfl) rfl rfl rfl (lb rfl) rfl rfl ?_
 refine AOps.cd hT hA { tk := [4] } (by cbv) (lb rfl) ?_
 refine nT ?_
 refine zr ?_
 cases soI h
 exact ⟨rfl, rfl, rfl, lb rfl, _, rfl⟩

theorem C70bw {A : Ar} (hA : A = Ar.std) {x1 : Int} {x2 x3 : List D} {x4 x5 x6 x7 x8 x9 x10 x11 x12 x13 x14 x15 x16 x17 x18 x19 x20 x21 : Int} {x22 x23 : List D} {v43 : Bool} (h : C70b A x1 x2 x3 x4 x5 x6 x7 x8 x9 x10 x11 x12 x13 x14 x15 x16 x17 x18 x19 x20 x21 x22 x23 = some v43) : ACall Try.prog 70 [(.ptr 0 0), (zi x1)] [(.cells [(zl 1 x2), (zl 1 x3), (zi x4), (zi x5), (zi x6), (zi x7), (zi x8), (zi x9), (zi x10), (zi x11), (zi x12), (zi x13), (zi x14), (zi x15), (zi x16), (zi x17), (zi x18), (zi x19), (zi x20), (zi x21), (zl 6 x22), (zl 1 x23)])] (.d (.bool v43)) [(.cells [(zl 1 x2), (zl 1 x3), (zi x4), (zi x5), (zi x6), (zi x7), (zi x8), (zi x9), (zi x10), (zi x11), (zi x12), (zi x13), (zi x14), (zi x15), (zi x16), (zi x17), (zi x18), (zi x19), (zi x20), (zi x21), (zl 6 x22), (zl 1 x23)])] := by
 unfold C70b at h
 refine ACall.enter hT (fn := Try.f70) Try.func70 rfl (by decide) (by simp [Try.f70]) rfl rfl rfl rfl (lb rfl) ?_
 refine zs ?_
 refine zg hT hA {} (by cbv) (lb rfl) ?_
 refine nT (zs ?_)
 obtain ⟨v41, hvK42, h⟩ := bindS h
 refine AWp.cutN [4] [] 1 (lb rfl) (fun τ => τ = { env := [(4, (.d (.bool v41)))], heap := [(.cells [(zl 1 x2), (zl 1 x3), (zi x4), (zi x5), (zi x6), (zi x7), (zi x8), (zi x9), (zi x10), (zi x11), (zi x12), (zi x13), (zi x14), (zi x15), (zi x16), (zi x17), (zi x18), (zi x19), (zi x20), (zi x21), (zl 6 x22), (zl 1 x23)])], n := 31 }) ?_ ?_
 ·skip
  refine AWp.regionDraw rfl (lb rfl) ?_
  obtain ⟨r25, e24, hvK42⟩ := bindS hvK42
  refine DOps.c0 hT hA { tk := [30] } rfl (by cbv) (C47w hA e24) rfl rfl (lb rfl) rfl rfl ?_
  rcases tf r25 with c26 | c26
  ·replace hvK42 := cT c26 hvK42
   rcases tf (A.zeq x1 0) with c27 | c27
   ·replace hvK42 := cT c27 hvK42
    obtain ⟨f28a, f28b, f28c⟩ := ixF hA (n := 2) c27 (by decide)
    obtain ⟨a29, e30, hvK42⟩ := bindS hvK42
    obtain ⟨f31, f32⟩ := gtI e30
    have f33 := f32
    rw [f28c] at f33
    refine DOps.cd hT hA { tk := [30] } rfl (by (repeat (cbv; simp only [c26, f28a, f28b, f28c, f33, f31, f32])); try cbv) (by kernel_rfl) ?_
    cases soI hvK42
    exact oNi ⟨rfl, (by first | (cbv; done) | ((repeat (cbv; simp only [c26])); try cbv))⟩
   ·replace hvK42 := cF c27 hvK42
    rcases tf (A.zeq x1 1) with c34 | c34
    ·replace hvK42 := cT c34 hvK42
     obtain ⟨f35a, f35b, f35c⟩ := ixF hA (n := 2) c34 (by decide)
     obtain ⟨a36, e37, hvK42⟩ := bindS hvK42
     obtain ⟨f38, f39⟩ := gtI e37
     have f40 := f39
     rw [f35c] at f40
     refine DOps.cd hT hA { tk := [30] } rfl (by (repeat (cbv; simp only [c26, f35a, f35b, f35c, f40, f38, f39])); try cbv) (by kernel_rfl) ?_
     cases soI hvK42
     exact oNi ⟨rfl, (by first | (cbv; done) | ((repeat (cbv; simp only [c26])); try cbv))⟩
    ·replace hvK42 := cF c34 hvK42
     cases hvK42
  ·replace hvK42 := cF c26 hvK42
   refine DOps.cd hT hA { tk := [30] } rfl (by (repeat (cbv; simp only [c26])); try cbv) (by kernel_rfl) ?_
   cases soI hvK42
   exact oNi ⟨rfl, (by first | (cbv; done) | ((repeat (cbv; simp only [c26])); try cbv))⟩
 ·rintro _ rfl
  refine nT ?_
  refine zr ?_
  cases soI h
  exact ⟨rfl, rfl, rfl, lb rfl, _, rfl⟩

theorem C56aw {A : Ar} (hA : A = Ar.std) {x1 x2 : List D} {x3 x4 x5 x6 x7 x8 x9 x10 x11 x12 x13 x14 x15 x16 x17 x18 x19 x20 : Int} {x21 x22 v47 : List D} (h : C56a A x1 x2 x3 x4 x5 x6 x7 x8 x9 x10 x11 x12 x13 x14 x15 x16 x17 x18 x19 x20 x21 x22 = some v47) : ACall Try.prog 56 [(.ptr 0 0)] [(.cells [(zl 1 x1), (zl 1 x2), (zi x3), (zi x4), (zi x5), (zi x6), (zi x7), (zi x8), (zi x9), (zi x10), (zi x11), (zi x12), (zi x13), (zi x14), (zi x15), (zi x16), (zi x17), (zi x18), (zi x19), (zi x20), (zl 6 x21), (zl 1 x22)])] (.own 1 v47) [(.cells [(zl 1 x1), (zl 1 x2), (zi x3), (zi x4), (zi x5), (zi x6), (zi x7), (zi x8), (zi x9), (zi x10), (zi x11), (zi x12), (zi x13), (zi x14), (zi x15), (zi x16), (zi x17), (zi x18), (zi x19), (zi x20), (zl 6 x21), (zl 1 x22)])] := by
 unfold C56a at h
 refine ACall.enter hT (fn := Try.f56) Try.func56 rfl (by decide) (by simp [Try.f56]) rfl rfl rfl rfl (lb rfl) ?_
 refine zs ?_
 refine zg hT hA {} (by cbv) (lb rfl) ?_
 refine nT (zs ?_)
 refine zg hT hA {} (by cbv) (lb rfl) ?_
 refine nT (zs (zs ?_))
 refine zg hT hA {} (by cbv) (lb rfl) ?_
 refine nT (zb ?_)
 obtain ⟨xK46, hxK46, K46, hK46, hkK46⟩ := bindK h
 refine AWp.cutX 0 [3] [] 1 (lb rfl) (fun τ => ∃ v45, K46 v45 = some v47 ∧ τ = { env := [(3, (.own 1 v45))], heap := [(.cells [(zl 1 x1), (zl 1 x2), (zi x3), (zi x4), (zi x5), (zi x6), (zi x7), (zi x8), (zi x9), (zi x10), (zi x11), (zi x12), (zi x13), (zi x14), (zi x15), (zi x16), (zi x17), (zi x18), (zi x19), (zi x20), (zl 6 x21), (zl 1 x22)])], n := 22 }) ?_ ?_
 ·skip
  refine AWp.iter hxK46 [0, 3, 9, 10] [] 1 (lb rfl) (fun (v33, v34) => { env := [(0, (.ptr 0 0)), (3, (.own 1 v33)), (9, (.d (.int .i64 (A.len x2)))), (10, (zi v34))], heap := [(.cells [(zl 1 x1), (zl 1 x2), (zi x3), (zi x4), (zi x5), (zi x6), (zi x7), (zi x8), (zi x9), (zi x10), (zi x11), (zi x12), (zi x13), (zi x14), (zi x15), (zi x16), (zi x17), (zi x18), (zi x19), (zi x20), (zl 6 x21), (zl 1 x22)])], n := 22 }) ⟨rfl, (by cbv)⟩ ?_
  rintro ⟨v33, v34⟩ eK46 hsK46
  dsimp only [C56aL0] at hsK46
  refine zs ?_
  refine zg hT hA {} (by cbv) (lb rfl) ?_
  refine nT (zs ?_)
  rcases tf (A.zlt v34 (A.len x2)) with c35 | c35
  ·replace hsK46 := cT c35 hsK46
   refine zt rfl (by first | rfl | simp only [c35, zqa, zqb, zqc, zqd]) ?_
   refine zk ?_
   refine nT (zs (zb (zs ?_)))
   refine zg hT hA {} (by (repeat (cbv; simp only [c35])); try cbv) (lb rfl) ?_
   refine nT (zs (zn ?_))
   obtain ⟨r37, e36, hsK46⟩ := bindS hsK46
   refine AOps.cc hT hA {} (by (repeat (cbv; simp only [c35])); try cbv) (lb rfl) (C70bw hA e36) rfl (.inl rfl) rfl rfl rfl (lb rfl) rfl rfl ?_
   refine AOps.cd hT hA {} (by (repeat (cbv; simp only [c35])); try cbv) (lb rfl) ?_
   refine nT ?_
   obtain ⟨v43, hvK44, hsK46⟩ := bindS hsK46
   refine AWp.cutN [0, 3, 9, 10] [] 1 (lb rfl) (fun τ => τ = { env := [(0, (.ptr 0 0)), (3, (.own 1 v43)), (9, (.d (.int .i64 (A.len x2)))), (10, (zi v34))], heap := [(.cells [(zl 1 x1), (zl 1 x2), (zi x3), (zi x4), (zi x5), (zi x6), (zi x7), (zi x8), (zi x9), (zi x10), (zi x11), (zi x12), (zi x13), (zi x14), (zi x15), (zi x16), (zi x17), (zi x18), (zi x19), (zi x20), (zl 6 x21), (zl 1 x22)])], n := 22 }) ?_ ?_
   ·skip
    rcases tf r37 with c38 | c38
    ·replace hvK44 := cT c38 hvK44
     refine zt rfl (by first | rfl | simp only [c35, c38, zqa, zqb, zqc, zqd]) ?_
     obtain ⟨l39, e40, hvK44⟩ := bindS hvK44
     obtain ⟨f41, f42⟩ := apI e40
     refine zg hT hA { tk := [3, 19] } (by (repeat (cbv; simp only [c35, c38, f41, f42])); try cbv) (lb rfl) ?_
     cases soI hvK44
     exact oNi ⟨rfl, (by first | (cbv; done) | ((repeat (cbv; simp only [c35, c38])); try cbv))⟩
    ·replace hvK44 := cF c38 hvK44
     refine zf rfl (by first | rfl | simp only [c35, c38, zqa, zqb, zqc, zqd]) ?_
     refine zk ?_
     cases soI hvK44
     exact oNi ⟨rfl, (by first | (cbv; done) | ((repeat (cbv; simp only [c35, c38])); try cbv))⟩
   ·rintro _ rfl
    refine nB ?_
    refine nT ?_
    refine zg hT hA {} (by cbv) (lb rfl) ?_
    exact nT ⟨_, (soI hsK46).symm, rfl, (by cbv)⟩
  ·replace hsK46 := cF c35 hsK46
   refine zf rfl (by first | rfl | simp only [c35, zqa, zqb, zqc, zqd]) ?_
   refine AWp.exit ?_
   refine xT ?_
   refine xT ?_
   refine exL hsK46 fun hx => ?_
   subst hx
   exact oxI ⟨rfl, _, hkK46, (by first | (cbv; done) | ((repeat (cbv; simp only [c35])); try cbv))⟩
 ·rintro _ ⟨v45, hkK46, rfl⟩
  have h := (hK46 _ hkK46)
  refine xB ?_
  refine nT (zs ?_)
  refine zg hT hA { tk := [3, 21] } (by cbv) (lb rfl) ?_
  refine nT ?_
  refine zr ?_
  cases soI h
  exact ⟨rfl, rfl, rfl, lb rfl, _, rfl⟩

theorem C93w {A : Ar} (hA : A = Ar.std) {x1 x2 : List D} {x3 x4 x5 x6 x7 x8 x9 x10 x11 x12 x13 x14 x15 x16 x17 x18 x19 x20 : Int} {x21 x22 x23 x24 v29 : List D} (h : C93 A x1 x2 x3 x4 x5 x6 x7 x8 x9 x10 x11 x12 x13 x14 x15 x16 x17 x18 x19 x20 x21 x22 x23 x24 = some v29) : ACall Try.prog 93 [(.d (.ref [(.list 1 x1), (.list 1 x2), (.int .i64 x3), (.int .i64 x4), (.int .i64 x5), (.int .i64 x6), (.int .i64 x7), (.int .i64 x8), (.int .i64 x9), (.int .i64 x10), (.int .i64 x11), (.int .i64 x12), (.int .i64 x13), (.int .i64 x14), (.int .i64 x15), (.int .i64 x16), (.int .i64 x17), (.int .i64 x18), (.int .i64 x19), (.int .i64 x20), (.list 6 x21), (.list 1 x22)])), (zl 1 x23), (.ptr 0 0)] [(.cells [(.own 1 x24)])] (.d (.bool true)) [(.cells [(.own 1 v29)])] := by
 unfold C93 at h
 refine ACall.enter hT (fn := Try.f93) Try.func93 rfl (by decide) (by simp [Try.f93]) rfl rfl rfl rfl (lb rfl) ?_
 refine zs ?_
 refine zg hT hA {} (by cbv) (lb rfl) ?_
 refine nT (zs ?_)
 obtain ⟨l25, e26, h⟩ := bindS h
 obtain ⟨f27, f28⟩ := apI e26
 refine AWp.rd hT hA { tk := [6, 12] } rfl (by (repeat (cbv; simp only [f27, f28])); try cbv) (by kernel_rfl) (lb rfl) ?_
 refine nT (zs ?_)
 refine zg hT hA {} (by cbv) (lb rfl) ?_
 refine nT ?_
 refine zr ?_
 cases soI h
 exact ⟨rfl, rfl, rfl, lb rfl, _, rfl⟩

theorem C146w {A : Ar} (hA : A = Ar.std) {x1 v12 : List D} (h : C146 A x1 = some v12) : ACall Try.prog 146 [(zl 6 x1)] [] (.own 6 v12) [] := by
 unfold C146 at h
 refine ACall.enter hT (fn := Try.f146) Try.func146 rfl (by decide) (by simp [Try.f146]) rfl rfl rfl rfl (lb rfl) ?_
 refine zs ?_
 refine zg hT hA {} (by cbv) (lb rfl) ?_
 refine nT (zs (zs ?_))
 rcases tf (A.zlt 0 (A.len x1)) with c2 | c2
 ·replace h := cT c2 h
  refine zg hT hA {} (by (repeat (cbv; simp only [c2])); try cbv) (lb rfl) ?_
  refine nT ?_
  refine AWp.cond (b := false) (by cbv; simp only [c2]) ?_
  rw [if_neg Bool.false_ne_true]
  refine zk ?_
  refine nT (zs ?_)
  obtain ⟨l4, e5, h⟩ := bindS h
  obtain ⟨f6, f7⟩ := apI e5
  refine zg hT hA { tk := [7] } (by (repeat (cbv; simp only [c2, f6, f7])); try cbv) (lb rfl) ?_
  refine nT ?_
  refine zr ?_
  cases soI h
  exact ⟨rfl, rfl, rfl, lb rfl, _, rfl⟩
 ·replace h := cF c2 h
  refine zg hT hA {} (by (repeat (cbv; simp only [c2])); try cbv) (lb rfl) ?_
  refine nT ?_
  obtain ⟨hc3a, hc3b⟩ := bothI h
  refine AWp.condAny (by cbv; simp only [c2]) ?_ ?_
  ·replace h := hc3a
   refine zs ?_
   refine zg hT hA {} (by (repeat (cbv; simp only [c2])); try cbv) (lb rfl) ?_
   refine nT ?_
   refine zr ?_
   refine rT ?_
   cases soI h
   exact ⟨rfl, rfl, rfl, lb rfl, _, rfl⟩
  ·replace h := hc3b
   refine zk ?_
   refine nT (zs ?_)
   obtain ⟨l8, e9, h⟩ := bindS h
   obtain ⟨f10, f11⟩ := apI e9
   refine zg hT hA { tk := [7] } (by (repeat (cbv; simp only [c2, f10, f11])); try cbv) (lb rfl) ?_
   refine nT ?_
   refine zr ?_
   cases soI h
   exact ⟨rfl, rfl, rfl, lb rfl, _, rfl⟩

theorem C124w {A : Ar} (hA : A = Ar.std) {x1 x2 : List D} {x3 x4 x5 x6 x7 x8 x9 x10 x11 x12 x13 x14 x15 x16 x17 x18 x19 x20 : Int} {x21 x22 v29 v30 : List D} {v31 v32 v33 v34 v35 v36 v37 v38 v39 v40 v41 v42 v43 v44 v45 v46 v47 v48 : Int} {v49 v50 : List D} (h : C124 A x1 x2 x3 x4 x5 x6 x7 x8 x9 x10 x11 x12 x13 x14 x15 x16 x17 x18 x19 x20 x21 x22 = some (v29, v30, v31, v32, v33, v34, v35, v36, v37, v38, v39, v40, v41, v42, v43, v44, v45, v46, v47, v48, v49, v50)) : ACall Try.prog 124 [(.d (.agg [(.list 1 x1), (.list 1 x2), (.int .i64 x3), (.int .i64 x4), (.int .i64 x5), (.int .i64 x6), (.int .i64 x7), (.int .i64 x8), (.int .i64 x9), (.int .i64 x10), (.int .i64 x11), (.int .i64 x12), (.int .i64 x13), (.int .i64 x14), (.int .i64 x15), (.int .i64 x16), (.int .i64 x17), (.int .i64 x18), (.int .i64 x19), (.int .i64 x20), (.list 6 x21), (.list 1 x22)]))] [] (.agg [(zl 1 v29), (zl 1 v30), (zi v31), (zi v32), (zi v33), (zi v34), (zi v35), (zi v36), (zi v37), (zi v38), (zi v39), (zi v40), (zi v41), (zi v42), (zi v43), (zi v44), (zi v45), (zi v46), (zi v47), (zi v48), (.gref 0 6), (.gref 3 1)]) [(.gro 6 v49), .dead, .dead, (.gro 1 v50), .dead, .dead] := by
 unfold C124 at h
 refine ACall.enter hT (fn := Try.f124) Try.func124 rfl (by decide) (by simp [Try.f124]) rfl rfl rfl rfl (lb rfl) ?_
 refine zs ?_
 refine zg hT hA { esc := [1, 2] } (by cbv) (lb rfl) ?_
 refine nT ?_
 refine AWp.weak (Wk.settle 1 20 rfl rfl rfl) ?_
 refine AWp.weak (Wk.settle 1 21 rfl rfl rfl) ?_
 refine zs ?_
 refine AWp.regionDraw rfl (lb rfl) ?_
 obtain ⟨r24, e23, h⟩ := bindS h
 obtain ⟨_, e25, h⟩ := bindS h
 refine DOps.c0 hT hA { tk := [5, 8] } rfl (by cbv) (ACall.fresh (C146w hA e23) (ckI e25)) rfl rfl (lb rfl) rfl rfl ?_
 obtain ⟨r27, e26, h⟩ := bindS h
 obtain ⟨_, e28, h⟩ := bindS h
 refine DOps.c0 hT hA { tk := [5, 8] } rfl (by cbv) (ACall.fresh (C54w hA e26) (ckI e28)) rfl rfl (lb rfl) rfl rfl ?_
 refine DOps.cd hT hA { tk := [5, 8] } rfl (by cbv) (by kernel_rfl) ?_
 refine nT ?_
 refine AWp.weak (Wk.settle 0 20 rfl rfl rfl) ?_
 refine AWp.weak (Wk.settle 0 21 rfl rfl rfl) ?_
 refine zs ?_
 refine zg hT hA { tk := [11] } (by cbv) (lb rfl) ?_
 refine nT ?_
 refine AWp.weak (Wk.ren [some 8, some 9, some 10, some 11, some 12, some 13, some 1] [2] rfl rfl) ?_
 refine zr ?_
 cases soI h
 exact ⟨rfl, rfl, rfl, lb rfl, _, rfl⟩

theorem C85aBw {A : Ar} (hA : A = Ar.std) {self140 : List D → List D → Int → Int → Int → Int → Int → Int → Int → Int → Int → Int → Int → Int → Int → Int → Int → Int → Int → Int → List D → List D → Int → List D → List D → List D → (Option (Bool × List D))} (ih140 : ∀ {x1 x2 : List D} {x3 x4 x5 x6 x7 x8 x9 x10 x11 x12 x13 x14 x15 x16 x17 x18 x19 x20 : Int} {x21 x22 : List D} {x23 : Int} {x24 x25 x26 : List D} {y1 : Bool} {y2 : List D}, self140 x1 x2 x3 x4 x5 x6 x7 x8 x9 x10 x11 x12 x13 x14 x15 x16 x17 x18 x19 x20 x21 x22 x23 x24 x25 x26 = some (y1, y2) → ACall Try.prog 85 [(.d (.agg [(.list 1 x1), (.list 1 x2), (.int .i64 x3), (.int .i64 x4), (.int .i64 x5), (.int .i64 x6), (.int .i64 x7), (.int .i64 x8), (.int .i64 x9), (.int .i64 x10), (.int .i64 x11), (.int .i64 x12), (.int .i64 x13), (.int .i64 x14), (.int .i64 x15), (.int .i64 x16), (.int .i64 x17), (.int .i64 x18), (.int .i64 x19), (.int .i64 x20), (.list 6 x21), (.list 1 x22)])), (zi x23), (zl 1 x24), (zl 1 x25), (.func 93 [] [(.ptr 0 0)])] [(.cells [(.own 1 x26)])] (.d (.bool y1)) [(.cells [(.own 1 y2)])]) {x1 x2 : List D} {x3 x4 x5 x6 x7 x8 x9 x10 x11 x12 x13 x14 x15 x16 x17 x18 x19 x20 : Int} {x21 x22 : List D} {x23 : Int} {x24 x25 x26 : List D} {v196 : Bool} {v197 : List D} (h : C85aB A self140 x1 x2 x3 x4 x5 x6 x7 x8 x9 x10 x11 x12 x13 x14 x15 x16 x17 x18 x19 x20 x21 x22 x23 x24 x25 x26 = some (v196, v197)) : ACall Try.prog 85 [(.d (.agg [(.list 1 x1), (.list 1 x2), (.int .i64 x3), (.int .i64 x4), (.int .i64 x5), (.int .i64 x6), (.int .i64 x7), (.int .i64 x8), (.int .i64 x9), (.int .i64 x10), (.int .i64 x11), (.int .i64 x12), (.int .i64 x13), (.int .i64 x14), (.int .i64 x15), (.int .i64 x16), (.int .i64 x17), (.int .i64 x18), (.int .i64 x19), (.int .i64 x20), (.list 6 x21), (.list 1 x22)])), (zi x23), (zl 1 x24), (zl 1 x25), (.func 93 [] [(.ptr 0 0)])] [(.cells [(.own 1 x26)])] (.d (.bool v196)) [(.cells [(.own 1 v197)])] := by
 unfold C85aB at h
 refine ACall.enter hT (fn := Try.f85) Try.func85 rfl (by decide) (by simp [Try.f85]) rfl rfl rfl rfl (lb rfl) ?_
 refine zs ?_
 refine zg hT hA { esc := [5] } (by cbv) (lb rfl) ?_
 refine nT (zs (zn ?_))
 obtain ⟨r28, e27, h⟩ := bindS h
 refine AOps.cc hT hA {} (by cbv) (lb rfl) (ACall.emb (C56aw hA e27) [some 1] [(.cells [(.own 1 x26)]), (.cells [(zl 1 x1), (zl 1 x2), (zi x3), (zi x4), (zi x5), (zi x6), (zi x7), (zi x8), (zi x9), (zi x10), (zi x11), (zi x12), (zi x13), (zi x14), (zi x15), (zi x16), (zi x17), (zi x18), (zi x19), (zi x20), (zl 6 x21), (zl 1 x22)])] rfl rfl rfl rfl rfl rfl rfl) rfl (.inl rfl) rfl rfl rfl (lb rfl) rfl rfl ?_
 refine AOps.cd hT hA {} (by cbv) (lb rfl) ?_
 refine nT (zs (zs ?_))
 obtain ⟨v30, hvK31, h⟩ := bindS h
 refine AWp.cutW (fun τ => τ = { env := [(1, (zi x23)), (2, (zl 1 x24)), (3, (zl 1 x25)), (4, (.func 93 [] [(.ptr 0 0)])), (5, (.ptr 1 0)), (11, (zl 1 r28)), (24, (.d (.bool v30)))], heap := [(.cells [(.own 1 x26)]), (.cells [(zl 1 x1), (zl 1 x2), (zi x3), (zi x4), (zi x5), (zi x6), (zi x7), (zi x8), (zi x9), (zi x10), (zi x11), (zi x12), (zi x13), (zi x14), (zi x15), (zi x16), (zi x17), (zi x18), (zi x19), (zi x20), (zl 6 x21), (zl 1 x22)])], n := 55 }) ?_ ?_
 ·skip
  rcases tf (A.zeq (A.len r28) 0) with c29 | c29
  ·replace hvK31 := cT c29 hvK31
   refine zg hT hA {} (by (repeat (cbv; simp only [c29])); try cbv) (lb rfl) ?_
   cases soI hvK31
   exact oWi ⟨_, (Wk.ren [some 0, some 1] [1, 2, 3, 4, 5, 11, 24] rfl (by first | (cbv; done) | ((repeat (cbv; simp only [c29])); try cbv))), rfl⟩
  ·replace hvK31 := cF c29 hvK31
   refine zg hT hA {} (by (repeat (cbv; simp only [c29])); try cbv) (lb rfl) ?_
   cases soI hvK31
   exact oWi ⟨_, (Wk.ren [some 0, some 1] [1, 2, 3, 4, 5, 11, 24] rfl (by first | (cbv; done) | ((repeat (cbv; simp only [c29])); try cbv))), rfl⟩
 ·rintro _ rfl
  refine nT ?_
  rcases tf v30 with c32 | c32
  ·replace h := cT c32 h
   refine zt rfl (by first | rfl | simp only [c32, zqa, zqb, zqc, zqd]) ?_
   refine zs ?_
   refine AWp.weak (Wk.freezeObj 1 [5] (ds := [(.list 1 x1), (.list 1 x2), (.int .i64 x3), (.int .i64 x4), (.int .i64 x5), (.int .i64 x6), (.int .i64 x7), (.int .i64 x8), (.int .i64 x9), (.int .i64 x10), (.int .i64 x11), (.int .i64 x12), (.int .i64 x13), (.int .i64 x14), (.int .i64 x15), (.int .i64 x16), (.int .i64 x17), (.int .i64 x18), (.int .i64 x19), (.int .i64 x20), (.list 6 x21), (.list 1 x22)]) rfl rfl) ?_
   refine zn ?_
   obtain ⟨r34, e33, h⟩ := bindS h
   refine AOps.cc hT hA { tk := [27] } (by (repeat (cbv; simp only [c32])); try cbv) (lb rfl) (C93w hA e33) rfl (.inr rfl) rfl rfl rfl (lb rfl) rfl rfl ?_
   refine AOps.cd hT hA { tk := [27] } (by (repeat (cbv; simp only [c32])); try cbv) (lb rfl) ?_
   refine nT ?_
   refine zr ?_
   refine rT ?_
   cases soI h
   exact ⟨rfl, rfl, rfl, lb rfl, _, rfl⟩
  ·replace h := cF c32 h
   refine zf rfl (by first | rfl | simp only [c32, zqa, zqb, zqc, zqd]) ?_
   refine zk ?_
   refine nT (zs (zs ?_))
   refine zg hT hA {} (by (repeat (cbv; simp only [c32])); try cbv) (lb rfl) ?_
   refine nT (zb ?_)
   obtain ⟨xK195, hxK195, K195, hK195, hkK195⟩ := bindK h
   refine AWp.cutX 0 [] [] 2 (lb rfl) (fun τ => ∃ v171, K195 (.inl v171) = some (v196, v197) ∧ τ = { env := [], heap := [(.cells [(.own 1 v171)]), (.cells [(zl 1 x1), (zl 1 x2), (zi x3), (zi x4), (zi x5), (zi x6), (zi x7), (zi x8), (zi x9), (zi x10), (zi x11), (zi x12), (zi x13), (zi x14), (zi x15), (zi x16), (zi x17), (zi x18), (zi x19), (zi x20), (zl 6 x21), (zl 1 x22)])], n := 55 }) ?_ ?_
   ·skip
    refine AWp.iter hxK195 [1, 2, 3, 4, 5, 28, 29, 30] [] 2 (lb rfl) (fun (v102, v103) => { env := [(1, (zi x23)), (2, (zl 1 x24)), (3, (zl 1 x25)), (4, (.func 93 [] [(.ptr 0 0)])), (5, (.ptr 1 0)), (28, (zl 1 r28)), (29, (.d (.int .i64 (A.len r28)))), (30, (zi v102))], heap := [(.cells [(.own 1 v103)]), (.cells [(zl 1 x1), (zl 1 x2), (zi x3), (zi x4), (zi x5), (zi x6), (zi x7), (zi x8), (zi x9), (zi x10), (zi x11), (zi x12), (zi x13), (zi x14), (zi x15), (zi x16), (zi x17), (zi x18), (zi x19), (zi x20), (zl 6 x21), (zl 1 x22)])], n := 55 }) ⟨rfl, (by first | (cbv; done) | ((repeat (cbv; simp only [c32])); try cbv))⟩ ?_
    rintro ⟨v102, v103⟩ eK195 hsK195
    dsimp only [C85aL0] at hsK195
    refine zs ?_
    refine zg hT hA {} (by cbv) (lb rfl) ?_
    refine nT (zs ?_)
    rcases tf (A.zlt v102 (A.len r28)) with c104 | c104
    ·replace hsK195 := cT c104 hsK195
     refine zt rfl (by first | rfl | simp only [c104, zqa, zqb, zqc, zqd]) ?_
     refine zk ?_
     refine nT (zs (zb (zs ?_)))
     obtain ⟨a105, e106, hsK195⟩ := bindS hsK195
     obtain ⟨f107, f108⟩ := gtI e106
     refine zg hT hA {} (by (repeat (cbv; simp only [c104, f107, f108])); try cbv) (lb rfl) ?_
     refine nT (zs (zn ?_))
     obtain ⟨⟨r110, r111, r112, r113, r114, r115, r116, r117, r118, r119, r120, r121, r122, r123, r124, r125, r126, r127, r128, r129, r130, r131⟩, e109, hsK195⟩ := bindS hsK195
     refine AOps.cc hT hA { tk := [35], esc := [14] } (by (repeat (cbv; simp only [c104])); try cbv) (lb rfl) (ACall.shift (C124w hA e109) rfl rfl [(.cells [(.own 1 v103)]), (.cells [(zl 1 x1), (zl 1 x2), (zi x3), (zi x4), (zi x5), (zi x6), (zi x7), (zi x8), (zi x9), (zi x10), (zi x11), (zi x12), (zi x13), (zi x14), (zi x15), (zi x16), (zi x17), (zi x18), (zi x19), (zi x20), (zl 6 x21), (zl 1 x22)])] rfl rfl rfl rfl) rfl (.inl rfl) rfl rfl rfl (lb rfl) rfl rfl ?_
     refine AOps.cd hT hA { tk := [35], esc := [14] } (by (repeat (cbv; simp only [c104])); try cbv) (lb rfl) ?_
     refine nT (zs (zn ?_))
     obtain ⟨⟨r133, r134, r135, r136, r137, r138, r139, r140, r141, r142, r143, r144, r145, r146, r147, r148, r149, r150, r151, r152, r153, r154⟩, e132, hsK195⟩ := bindS hsK195
     refine AOps.cc hT hA {} (by (repeat (cbv; simp only [c104])); try cbv) (lb rfl) (ACall.emb (C71w hA e132) [some 8, some 2, some 3, some 4, some 5, some 6, some 7] [(.cells [(.own 1 v103)]), (.cells [(zl 1 x1), (zl 1 x2), (zi x3), (zi x4), (zi x5), (zi x6), (zi x7), (zi x8), (zi x9), (zi x10), (zi x11), (zi x12), (zi x13), (zi x14), (zi x15), (zi x16), (zi x17), (zi x18), (zi x19), (zi x20), (zl 6 x21), (zl 1 x22)]), (.gro 6 r130), .dead, .dead, (.gro 1 r131), .dead, .dead, (.cells [(zl 1 r110), (zl 1 r111), (zi r112), (zi r113), (zi r114), (zi r115), (zi r116), (zi r117), (zi r118), (zi r119), (zi r120), (zi r121), (zi r122), (zi r123), (zi r124), (zi r125), (zi r126), (zi r127), (zi r128), (zi r129), (.gref 2 6), (.gref 5 1)])] rfl rfl rfl rfl rfl rfl rfl) rfl (.inl rfl) rfl rfl rfl (lb rfl) rfl rfl ?_
     refine AOps.cd hT hA {} (by (repeat (cbv; simp only [c104])); try cbv) (lb rfl) ?_
     refine nT (zs ?_)
     refine AWp.weak (Wk.freezeG 8 20 rfl rfl rfl) ?_
     refine AWp.weak (Wk.freezeG 8 21 rfl rfl rfl) ?_
     refine AWp.regionDraw rfl (lb rfl) ?_
     obtain ⟨l155, e156, hsK195⟩ := bindS hsK195
     obtain ⟨f157, f158, f159, f160⟩ := slI e156
     obtain ⟨_, e161, hsK195⟩ := bindS hsK195
     have f162 := ckI e161
     obtain ⟨l163, e164, hsK195⟩ := bindS hsK195
     obtain ⟨f165, f166⟩ := apI e164
     obtain ⟨⟨r168, r169⟩, e167, hsK195⟩ := bindS hsK195
     refine DOps.cl hT hA {} rfl (by (repeat (cbv; simp only [c104, f157, f158, f159, f160, f162, f165, f166])); try cbv) (ih140 e167) rfl rfl rfl rfl rfl (lb rfl) rfl rfl ?_
     refine DOps.cd hT hA {} rfl (by (repeat (cbv; simp only [c104, f157, f158, f159, f160, f162, f165, f166])); try cbv) (by kernel_rfl) ?_
     refine nT ?_
     rcases tf r168 with c170 | c170
     ·replace hsK195 := cT c170 hsK195
      refine zf rfl (by first | rfl | simp only [c104, c170, zqa, zqb, zqc, zqd]) ?_
      refine zk ?_
      refine nB ?_
      refine nT ?_
      refine zg hT hA {} (by (repeat (cbv; simp only [c104, c170])); try cbv) (lb rfl) ?_
      exact nT ⟨_, (soI hsK195).symm, rfl, (by first | (cbv; done) | ((repeat (cbv; simp only [c104, c170])); try cbv))⟩
     ·replace hsK195 := cF c170 hsK195
      refine zt rfl (by first | rfl | simp only [c104, c170, zqa, zqb, zqc, zqd]) ?_
      refine zs ?_
      refine zg hT hA {} (by (repeat (cbv; simp only [c104, c170])); try cbv) (lb rfl) ?_
      refine nT ?_
      refine zr ?_
      refine rB ?_
      refine rT ?_
      refine rT ?_
      refine exL hsK195 fun hx => ?_
      subst hx
      refine oxR ?_
      replace hkK195 := (eR (hK195 _ hkK195))
      refine rB ?_
      refine rT ?_
      cases soI hkK195
      exact ⟨rfl, rfl, rfl, lb rfl, _, rfl⟩
    ·replace hsK195 := cF c104 hsK195
     refine zf rfl (by first | rfl | simp only [c104, zqa, zqb, zqc, zqd]) ?_
     refine AWp.exit ?_
     refine xT ?_
     refine xT ?_
     refine exL hsK195 fun hx => ?_
     subst hx
     exact oxI ⟨rfl, _, hkK195, (by first | (cbv; done) | ((repeat (cbv; simp only [c104])); try cbv))⟩
   ·rintro _ ⟨v171, hkK195, rfl⟩
    have h := (eL (hK195 _ hkK195))
    refine xB ?_
    refine nT (zs ?_)
    refine zg hT hA {} (by cbv) (lb rfl) ?_
    refine nT ?_
    refine zr ?_
    cases soI h
    exact ⟨rfl, rfl, rfl, lb rfl, _, rfl⟩
end Go.Am
