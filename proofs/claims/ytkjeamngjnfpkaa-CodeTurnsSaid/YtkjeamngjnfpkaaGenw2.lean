/- Own text: Genw2. -/
import Derived.Test.YtkjeamngjnfpkaaGenw1
set_option maxRecDepth 100000
set_option maxHeartbeats 2000000
set_option linter.unusedVariables false
set_option linter.unusedSimpArgs false
namespace Go.Am
open Go Go.Proofs
theorem C85aRw {A : Ar} (hA : A = Ar.std) : ∀ (n : Nat) {x1 x2 : List D} {x3 x4 x5 x6 x7 x8 x9 x10 x11 x12 x13 x14 x15 x16 x17 x18 x19 x20 : Int} {x21 x22 : List D} {x23 : Int} {x24 x25 x26 : List D} {v196 : Bool} {v197 : List D}, C85aR A n x1 x2 x3 x4 x5 x6 x7 x8 x9 x10 x11 x12 x13 x14 x15 x16 x17 x18 x19 x20 x21 x22 x23 x24 x25 x26 = some (v196, v197) → ACall Try.prog 85 [(.d (.agg [(.list 1 x1), (.list 1 x2), (.int .i64 x3), (.int .i64 x4), (.int .i64 x5), (.int .i64 x6), (.int .i64 x7), (.int .i64 x8), (.int .i64 x9), (.int .i64 x10), (.int .i64 x11), (.int .i64 x12), (.int .i64 x13), (.int .i64 x14), (.int .i64 x15), (.int .i64 x16), (.int .i64 x17), (.int .i64 x18), (.int .i64 x19), (.int .i64 x20), (.list 6 x21), (.list 1 x22)])), (zi x23), (zl 1 x24), (zl 1 x25), (.func 93 [] [(.ptr 0 0)])] [(.cells [(.own 1 x26)])] (.d (.bool v196)) [(.cells [(.own 1 v197)])]
 | 0, _, _, _, _, _, _, _, _, _, _, _, _, _, _, _, _, _, _, _, _, _, _, _, _, _, _, _, _, h => by cases h
 | n + 1, _, _, _, _, _, _, _, _, _, _, _, _, _, _, _, _, _, _, _, _, _, _, _, _, _, _, _, _, h => C85aBw hA (fun h => C85aRw hA n h) h

theorem C85aw {A : Ar} (hA : A = Ar.std) {x1 x2 : List D} {x3 x4 x5 x6 x7 x8 x9 x10 x11 x12 x13 x14 x15 x16 x17 x18 x19 x20 : Int} {x21 x22 : List D} {x23 : Int} {x24 x25 x26 : List D} {v196 : Bool} {v197 : List D} (h : C85a A x1 x2 x3 x4 x5 x6 x7 x8 x9 x10 x11 x12 x13 x14 x15 x16 x17 x18 x19 x20 x21 x22 x23 x24 x25 x26 = some (v196, v197)) : ACall Try.prog 85 [(.d (.agg [(.list 1 x1), (.list 1 x2), (.int .i64 x3), (.int .i64 x4), (.int .i64 x5), (.int .i64 x6), (.int .i64 x7), (.int .i64 x8), (.int .i64 x9), (.int .i64 x10), (.int .i64 x11), (.int .i64 x12), (.int .i64 x13), (.int .i64 x14), (.int .i64 x15), (.int .i64 x16), (.int .i64 x17), (.int .i64 x18), (.int .i64 x19), (.int .i64 x20), (.list 6 x21), (.list 1 x22)])), (zi x23), (zl 1 x24), (zl 1 x25), (.func 93 [] [(.ptr 0 0)])] [(.cells [(.own 1 x26)])] (.d (.bool v196)) [(.cells [(.own 1 v197)])] := C85aRw hA fuel h

theorem C85w {A : Ar} (hA : A = Ar.std) {x1 x2 : List D} {x3 x4 x5 x6 x7 x8 x9 x10 x11 x12 x13 x14 x15 x16 x17 x18 x19 x20 x21 : Int} {x22 x23 x24 x25 x26 : List D} {v196 : Bool} {v197 : List D} (h : C85 A x1 x2 x3 x4 x5 x6 x7 x8 x9 x10 x11 x12 x13 x14 x15 x16 x17 x18 x19 x20 x21 x22 x23 x24 x25 x26 = some (v196, v197)) : ACall Try.prog 85 [(.agg [(zl 1 x1), (zl 1 x2), (zi x3), (zi x4), (zi x5), (zi x6), (zi x7), (zi x8), (zi x9), (zi x10), (zi x11), (zi x12), (zi x13), (zi x14), (zi x15), (zi x16), (zi x17), (zi x18), (zi x19), (zi x20), (.gref 1 6), (.gref 4 1)]), (zi x21), (zl 1 x22), (zl 1 x23), (.func 93 [] [(.ptr 0 0)])] [(.cells [(.own 1 x24)]), (.gro 6 x25), .dead, .dead, (.gro 1 x26), .dead, .dead] (.d (.bool v196)) [(.cells [(.own 1 v197)]), .dead, .dead, .dead, .dead, .dead, .dead] := by
 unfold C85 at h
 refine ACall.enter hT (fn := Try.f85) Try.func85 rfl (by decide) (by simp [Try.f85]) rfl rfl rfl rfl (lb rfl) ?_
 refine zs ?_
 refine zg hT hA { esc := [5] } (by cbv) (lb rfl) ?_
 refine nT ?_
 refine AWp.weak (Wk.freezeG 7 20 rfl rfl rfl) ?_
 refine AWp.weak (Wk.freezeG 7 21 rfl rfl rfl) ?_
 refine zs (zn ?_)
 obtain ⟨r28, e27, h⟩ := bindS h
 refine AOps.cc hT hA {} (by cbv) (lb rfl) (ACall.emb (C56aw hA e27) [some 7] [(.cells [(.own 1 x24)]), .dead, .dead, .dead, .dead, .dead, .dead, (.cells [(zl 1 x1), (zl 1 x2), (zi x3), (zi x4), (zi x5), (zi x6), (zi x7), (zi x8), (zi x9), (zi x10), (zi x11), (zi x12), (zi x13), (zi x14), (zi x15), (zi x16), (zi x17), (zi x18), (zi x19), (zi x20), (zl 6 x25), (zl 1 x26)])] rfl rfl rfl rfl rfl rfl rfl) rfl (.inl rfl) rfl rfl rfl (lb rfl) rfl rfl ?_
 refine AOps.cd hT hA {} (by cbv) (lb rfl) ?_
 refine nT (zs (zs ?_))
 obtain ⟨v30, hvK31, h⟩ := bindS h
 refine AWp.cutN [1, 2, 3, 4, 5, 11, 24] [] 8 (lb rfl) (fun τ => τ = { env := [(1, (zi x21)), (2, (zl 1 x22)), (3, (zl 1 x23)), (4, (.func 93 [] [(.ptr 0 0)])), (5, (.ptr 7 0)), (11, (zl 1 r28)), (24, (.d (.bool v30)))], heap := [(.cells [(.own 1 x24)]), .dead, .dead, .dead, .dead, .dead, .dead, (.cells [(zl 1 x1), (zl 1 x2), (zi x3), (zi x4), (zi x5), (zi x6), (zi x7), (zi x8), (zi x9), (zi x10), (zi x11), (zi x12), (zi x13), (zi x14), (zi x15), (zi x16), (zi x17), (zi x18), (zi x19), (zi x20), (zl 6 x25), (zl 1 x26)])], n := 55 }) ?_ ?_
 ·skip
  rcases tf (A.zeq (A.len r28) 0) with c29 | c29
  ·replace hvK31 := cT c29 hvK31
   refine zg hT hA {} (by (repeat (cbv; simp only [c29])); try cbv) (lb rfl) ?_
   cases soI hvK31
   exact oNi ⟨rfl, (by first | (cbv; done) | ((repeat (cbv; simp only [c29])); try cbv))⟩
  ·replace hvK31 := cF c29 hvK31
   refine zg hT hA {} (by (repeat (cbv; simp only [c29])); try cbv) (lb rfl) ?_
   cases soI hvK31
   exact oNi ⟨rfl, (by first | (cbv; done) | ((repeat (cbv; simp only [c29])); try cbv))⟩
 ·rintro _ rfl
  refine nT ?_
  rcases tf v30 with c32 | c32
  ·replace h := cT c32 h
   refine zt rfl (by first | rfl | simp only [c32, zqa, zqb, zqc, zqd]) ?_
   refine zs ?_
   refine AWp.weak (Wk.freezeObj 7 [5] (ds := [(.list 1 x1), (.list 1 x2), (.int .i64 x3), (.int .i64 x4), (.int .i64 x5), (.int .i64 x6), (.int .i64 x7), (.int .i64 x8), (.int .i64 x9), (.int .i64 x10), (.int .i64 x11), (.int .i64 x12), (.int .i64 x13), (.int .i64 x14), (.int .i64 x15), (.int .i64 x16), (.int .i64 x17), (.int .i64 x18), (.int .i64 x19), (.int .i64 x20), (.list 6 x25), (.list 1 x26)]) rfl rfl) ?_
   refine zn ?_
   obtain ⟨r34, e33, h⟩ := bindS h
   refine AOps.cc hT hA { tk := [27] } (by (repeat (cbv; simp only [c32])); try cbv) (lb rfl) (C93w hA e33) rfl (.inr rfl) rfl rfl rfl (lb rfl) rfl rfl ?_
   refine AOps.cd hT hA { tk := [27] } (by (repeat (cbv; simp only [c32])); try cbv) (lb rfl) ?_
   refine nT ?_
   refine zr ?_
   refine rT ?_
   cases soI h
   exact ⟨rfl, rfl, rfl, lb rfl, _, rfl⟩
  ·replace h := cF c32 h
   refine zf rfl (by first | rfl | simp only [c32, zqa, zqb, zqc, zqd]) ?_
   refine zk ?_
   refine nT (zs (zs ?_))
   refine zg hT hA {} (by (repeat (cbv; simp only [c32])); try cbv) (lb rfl) ?_
   refine nT (zb ?_)
   obtain ⟨xK195, hxK195, K195, hK195, hkK195⟩ := bindK h
   refine AWp.cutX 0 [] [] 8 (lb rfl) (fun τ => ∃ v171, K195 (.inl v171) = some (v196, v197) ∧ τ = { env := [], heap := [(.cells [(.own 1 v171)]), .dead, .dead, .dead, .dead, .dead, .dead, (.cells [(zl 1 x1), (zl 1 x2), (zi x3), (zi x4), (zi x5), (zi x6), (zi x7), (zi x8), (zi x9), (zi x10), (zi x11), (zi x12), (zi x13), (zi x14), (zi x15), (zi x16), (zi x17), (zi x18), (zi x19), (zi x20), (zl 6 x25), (zl 1 x26)])], n := 55 }) ?_ ?_
   ·skip
    refine AWp.iter hxK195 [1, 2, 3, 4, 5, 28, 29, 30] [] 8 (lb rfl) (fun (v102, v103) => { env := [(1, (zi x21)), (2, (zl 1 x22)), (3, (zl 1 x23)), (4, (.func 93 [] [(.ptr 0 0)])), (5, (.ptr 7 0)), (28, (zl 1 r28)), (29, (.d (.int .i64 (A.len r28)))), (30, (zi v102))], heap := [(.cells [(.own 1 v103)]), .dead, .dead, .dead, .dead, .dead, .dead, (.cells [(zl 1 x1), (zl 1 x2), (zi x3), (zi x4), (zi x5), (zi x6), (zi x7), (zi x8), (zi x9), (zi x10), (zi x11), (zi x12), (zi x13), (zi x14), (zi x15), (zi x16), (zi x17), (zi x18), (zi x19), (zi x20), (zl 6 x25), (zl 1 x26)])], n := 55 }) ⟨rfl, (by first | (cbv; done) | ((repeat (cbv; simp only [c32])); try cbv))⟩ ?_
    rintro ⟨v102, v103⟩ eK195 hsK195
    dsimp only [C85L0] at hsK195
    refine zs ?_
    refine zg hT hA {} (by cbv) (lb rfl) ?_
    refine nT (zs ?_)
    rcases tf (A.zlt v102 (A.len r28)) with c104 | c104
    ·replace hsK195 := cT c104 hsK195
     refine zt rfl (by first | rfl | simp only [c104, zqa, zqb, zqc, zqd]) ?_
     refine zk ?_
     refine nT (zs (zb (zs ?_)))
     obtain ⟨a105, e106, hsK195⟩ := bindS hsK195
     obtain ⟨f107, f108⟩ := gtI e106
     refine zg hT hA {} (by (repeat (cbv; simp only [c104, f107, f108])); try cbv) (lb rfl) ?_
     refine nT (zs (zn ?_))
     obtain ⟨⟨r110, r111, r112, r113, r114, r115, r116, r117, r118, r119, r120, r121, r122, r123, r124, r125, r126, r127, r128, r129, r130, r131⟩, e109, hsK195⟩ := bindS hsK195
     refine AOps.cc hT hA { tk := [35], esc := [14] } (by (repeat (cbv; simp only [c104])); try cbv) (lb rfl) (ACall.shift (C124w hA e109) rfl rfl [(.cells [(.own 1 v103)]), .dead, .dead, .dead, .dead, .dead, .dead, (.cells [(zl 1 x1), (zl 1 x2), (zi x3), (zi x4), (zi x5), (zi x6), (zi x7), (zi x8), (zi x9), (zi x10), (zi x11), (zi x12), (zi x13), (zi x14), (zi x15), (zi x16), (zi x17), (zi x18), (zi x19), (zi x20), (zl 6 x25), (zl 1 x26)])] rfl rfl rfl rfl) rfl (.inl rfl) rfl rfl rfl (lb rfl) rfl rfl ?_
     refine AOps.cd hT hA { tk := [35], esc := [14] } (by (repeat (cbv; simp only [c104])); try cbv) (lb rfl) ?_
     refine nT (zs (zn ?_))
     obtain ⟨⟨r133, r134, r135, r136, r137, r138, r139, r140, r141, r142, r143, r144, r145, r146, r147, r148, r149, r150, r151, r152, r153, r154⟩, e132, hsK195⟩ := bindS hsK195
     refine AOps.cc hT hA {} (by (repeat (cbv; simp only [c104])); try cbv) (lb rfl) (ACall.emb (C71w hA e132) [some 14, some 8, some 9, some 10, some 11, some 12, some 13] [(.cells [(.own 1 v103)]), .dead, .dead, .dead, .dead, .dead, .dead, (.cells [(zl 1 x1), (zl 1 x2), (zi x3), (zi x4), (zi x5), (zi x6), (zi x7), (zi x8), (zi x9), (zi x10), (zi x11), (zi x12), (zi x13), (zi x14), (zi x15), (zi x16), (zi x17), (zi x18), (zi x19), (zi x20), (zl 6 x25), (zl 1 x26)]), (.gro 6 r130), .dead, .dead, (.gro 1 r131), .dead, .dead, (.cells [(zl 1 r110), (zl 1 r111), (zi r112), (zi r113), (zi r114), (zi r115), (zi r116), (zi r117), (zi r118), (zi r119), (zi r120), (zi r121), (zi r122), (zi r123), (zi r124), (zi r125), (zi r126), (zi r127), (zi r128), (zi r129), (.gref 8 6), (.gref 11 1)])] rfl rfl rfl rfl rfl rfl rfl) rfl (.inl rfl) rfl rfl rfl (lb rfl) rfl rfl ?_
     refine AOps.cd hT hA {} (by (repeat (cbv; simp only [c104])); try cbv) (lb rfl) ?_
     refine nT (zs ?_)
     refine AWp.weak (Wk.freezeG 14 20 rfl rfl rfl) ?_
     refine AWp.weak (Wk.freezeG 14 21 rfl rfl rfl) ?_
     refine AWp.regionDraw rfl (lb rfl) ?_
     obtain ⟨l155, e156, hsK195⟩ := bindS hsK195
     obtain ⟨f157, f158, f159, f160⟩ := slI e156
     obtain ⟨_, e161, hsK195⟩ := bindS hsK195
     have f162 := ckI e161
     obtain ⟨l163, e164, hsK195⟩ := bindS hsK195
     obtain ⟨f165, f166⟩ := apI e164
     obtain ⟨⟨r168, r169⟩, e167, hsK195⟩ := bindS hsK195
     refine DOps.cl hT hA {} rfl (by (repeat (cbv; simp only [c104, f157, f158, f159, f160, f162, f165, f166])); try cbv) (C85aw hA e167) rfl rfl rfl rfl rfl (lb rfl) rfl rfl ?_
     refine DOps.cd hT hA {} rfl (by (repeat (cbv; simp only [c104, f157, f158, f159, f160, f162, f165, f166])); try cbv) (by kernel_rfl) ?_
     refine nT ?_
     rcases tf r168 with c170 | c170
     ·replace hsK195 := cT c170 hsK195
      refine zf rfl (by first | rfl | simp only [c104, c170, zqa, zqb, zqc, zqd]) ?_
      refine zk ?_
      refine nB ?_
      refine nT ?_
      refine zg hT hA {} (by (repeat (cbv; simp only [c104, c170])); try cbv) (lb rfl) ?_
      exact nT ⟨_, (soI hsK195).symm, rfl, (by first | (cbv; done) | ((repeat (cbv; simp only [c104, c170])); try cbv))⟩
     ·replace hsK195 := cF c170 hsK195
      refine zt rfl (by first | rfl | simp only [c104, c170, zqa, zqb, zqc, zqd]) ?_
      refine zs ?_
      refine zg hT hA {} (by (repeat (cbv; simp only [c104, c170])); try cbv) (lb rfl) ?_
      refine nT ?_
      refine zr ?_
      refine rB ?_
      refine rT ?_
      refine rT ?_
      refine exL hsK195 fun hx => ?_
      subst hx
      refine oxR ?_
      replace hkK195 := (eR (hK195 _ hkK195))
      refine rB ?_
      refine rT ?_
      cases soI hkK195
      exact ⟨rfl, rfl, rfl, lb rfl, _, rfl⟩
    ·replace hsK195 := cF c104 hsK195
     refine zf rfl (by first | rfl | simp only [c104, zqa, zqb, zqc, zqd]) ?_
     refine AWp.exit ?_
     refine xT ?_
     refine xT ?_
     refine exL hsK195 fun hx => ?_
     subst hx
     exact oxI ⟨rfl, _, hkK195, (by first | (cbv; done) | ((repeat (cbv; simp only [c104])); try cbv))⟩
   ·rintro _ ⟨v171, hkK195, rfl⟩
    have h := (eL (hK195 _ hkK195))
    refine xB ?_
    refine nT (zs ?_)
    refine zg hT hA {} (by cbv) (lb rfl) ?_
    refine nT ?_
    refine zr ?_
    cases soI h
    exact ⟨rfl, rfl, rfl, lb rfl, _, rfl⟩

theorem C94w {A : Ar} (hA : A = Ar.std) {x1 : List D} (h : C94 A x1 = some ()) : ACall Try.prog 94 [(zl 1 x1), (.func 95 [] [])] [] (.tuple []) [] := ACall.sortNone1 Try.sort94 rfl (lenZ hA (ckI h)) rfl

theorem C132w {A : Ar} (hA : A = Ar.std) {x1 : List D} {v17 : Int} (h : C132 A x1 = some v17) : ACall Try.prog 132 [(zl 1 x1)] [] (zi v17) [] := by
 unfold C132 at h
 refine ACall.enter hT (fn := Try.f132) Try.func132 rfl (by decide) (by simp [Try.f132]) rfl rfl rfl rfl (lb rfl) ?_
 refine zs ?_
 refine zg hT hA {} (by cbv) (lb rfl) ?_
 refine nT (zs ?_)
 refine zg hT hA {} (by cbv) (lb rfl) ?_
 refine nT (zs (zs ?_))
 refine zg hT hA {} (by cbv) (lb rfl) ?_
 refine nT (zb ?_)
 obtain ⟨xK16, hxK16, K16, hK16, hkK16⟩ := bindK h
 refine AWp.cutX 0 [3] [] 0 (lb rfl) (fun τ => K16 (.inl ()) = some v17 ∧ τ = { env := [(3, (zi 0))], heap := [], n := 18 }) ?_ ?_
 ·skip
  refine AWp.iter hxK16 [3, 6, 7, 8] [] 0 (lb rfl) (fun v8 => { env := [(3, (zi 0)), (6, (zl 1 x1)), (7, (.d (.int .i64 (A.len x1)))), (8, (zi v8))], heap := [], n := 18 }) ⟨rfl, (by cbv)⟩ ?_
  rintro v8 eK16 hsK16
  dsimp only [C132L0] at hsK16
  refine zs ?_
  refine zg hT hA {} (by cbv) (lb rfl) ?_
  refine nT (zs ?_)
  rcases tf (A.zlt v8 (A.len x1)) with c9 | c9
  ·replace hsK16 := cT c9 hsK16
   refine zt rfl (by first | rfl | simp only [c9, zqa, zqb, zqc, zqd]) ?_
   refine zk ?_
   refine nT (zs (zb (zs ?_)))
   obtain ⟨a10, e11, hsK16⟩ := bindS hsK16
   obtain ⟨f12, f13⟩ := gtI e11
   refine zg hT hA { tk := [11] } (by (repeat (cbv; simp only [c9, f12, f13])); try cbv) (lb rfl) ?_
   refine nT (zs ?_)
   refine zg hT hA {} (by (repeat (cbv; simp only [c9])); try cbv) (lb rfl) ?_
   refine nT ?_
   rcases tf (A.zeq a10 0) with c14 | c14
   ·replace hsK16 := cT c14 hsK16
    refine zf rfl (by first | rfl | simp only [c9, c14, zqa, zqb, zqc, zqd]) ?_
    refine zk ?_
    refine nB ?_
    refine nT ?_
    refine zg hT hA {} (by (repeat (cbv; simp only [c9, c14])); try cbv) (lb rfl) ?_
    exact nT ⟨_, (soI hsK16).symm, rfl, (by first | (cbv; done) | ((repeat (cbv; simp only [c9, c14])); try cbv))⟩
   ·replace hsK16 := cF c14 hsK16
    refine zt rfl (by first | rfl | simp only [c9, c14, zqa, zqb, zqc, zqd]) ?_
    refine zs ?_
    refine zg hT hA { tk := [5, 15] } (by (repeat (cbv; simp only [c9, c14])); try cbv) (lb rfl) ?_
    refine nT ?_
    refine zr ?_
    refine rB ?_
    refine rT ?_
    refine rT ?_
    refine exL hsK16 fun hx => ?_
    subst hx
    refine oxR ?_
    replace hkK16 := (eR (hK16 _ hkK16))
    refine rB ?_
    refine rT ?_
    cases soI hkK16
    exact ⟨rfl, rfl, rfl, lb rfl, _, rfl⟩
  ·replace hsK16 := cF c9 hsK16
   refine zf rfl (by first | rfl | simp only [c9, zqa, zqb, zqc, zqd]) ?_
   refine AWp.exit ?_
   refine xT ?_
   refine xT ?_
   refine exL hsK16 fun hx => ?_
   subst hx
   exact oxI ⟨rfl, hkK16, (by first | (cbv; done) | ((repeat (cbv; simp only [c9])); try cbv))⟩
 ·rintro _ ⟨hkK16, rfl⟩
  have h := (eL (hK16 _ hkK16))
  refine xB ?_
  refine nT (zs ?_)
  refine zg hT hA { tk := [3, 17] } (by cbv) (lb rfl) ?_
  refine nT ?_
  refine zr ?_
  cases soI h
  exact ⟨rfl, rfl, rfl, lb rfl, _, rfl⟩

theorem C97w {A : Ar} (hA : A = Ar.std) {x1 x2 x3 x4 x5 x6 x7 x8 x9 x10 x11 x12 v15 : Int} (h : C97 A x1 x2 x3 x4 x5 x6 x7 x8 x9 x10 x11 x12 = some v15) : ACall Try.prog 97 [(.d (.agg [(.int .i64 x1), (.int .i64 x2), (.int .i64 x3), (.int .i64 x4), (.int .i64 x5), (.int .i64 x6)])), (.d (.agg [(.int .i64 x7), (.int .i64 x8), (.int .i64 x9), (.int .i64 x10), (.int .i64 x11), (.int .i64 x12)]))] [] (zi v15) [] := by
 unfold C97 at h
 refine ACall.enter hT (fn := Try.f97) Try.func97 rfl (by decide) (by simp [Try.f97]) rfl rfl rfl rfl (lb rfl) ?_
 refine zs ?_
 refine zg hT hA {} (by cbv) (lb rfl) ?_
 refine nT (zs (zn ?_))
 obtain ⟨r14, e13, h⟩ := bindS h
 refine AOps.cc hT hA { tk := [31] } (by cbv) (lb rfl) (C132w hA e13) rfl (.inl rfl) rfl rfl rfl (lb rfl) rfl rfl ?_
 refine AOps.cd hT hA { tk := [31] } (by cbv) (lb rfl) ?_
 refine nT ?_
 refine zr ?_
 cases soI h
 exact ⟨rfl, rfl, rfl, lb rfl, _, rfl⟩

theorem C96w {A : Ar} (hA : A = Ar.std) {x1 x2 : List D} {v53 : Int} (h : C96 A x1 x2 = some v53) : ACall Try.prog 96 [(zl 6 x1), (zl 6 x2), (.func 97 [] [])] [] (zi v53) [] := by
 unfold C96 at h
 refine ACall.enter hT (fn := Try.f96) Try.func96 rfl (by decide) (by simp [Try.f96]) rfl rfl rfl rfl (lb rfl) ?_
 refine zs ?_
 refine zg hT hA {} (by cbv) (lb rfl) ?_
 refine nT (zs (zs ?_))
 refine zg hT hA {} (by cbv) (lb rfl) ?_
 refine nT (zb ?_)
 obtain ⟨xK51, hxK51, K51, hK51, hkK51⟩ := bindK h
 refine AWp.cutX 0 [0, 1] [] 0 (lb rfl) (fun τ => K51 (.inl ()) = some v53 ∧ τ = { env := [(0, (zl 6 x1)), (1, (zl 6 x2))], heap := [], n := 39 }) ?_ ?_
 ·skip
  refine AWp.iter hxK51 [0, 1, 2, 11, 12, 13] [] 0 (lb rfl) (fun v26 => { env := [(0, (zl 6 x1)), (1, (zl 6 x2)), (2, (.func 97 [] [])), (11, (zl 6 x1)), (12, (.d (.int .i64 (A.len x1)))), (13, (zi v26))], heap := [], n := 39 }) ⟨rfl, (by cbv)⟩ ?_
  rintro v26 eK51 hsK51
  dsimp only [C96L0] at hsK51
  refine zs ?_
  refine zg hT hA {} (by cbv) (lb rfl) ?_
  refine nT (zs ?_)
  rcases tf (A.zlt v26 (A.len x1)) with c27 | c27
  ·replace hsK51 := cT c27 hsK51
   refine zt rfl (by first | rfl | simp only [c27, zqa, zqb, zqc, zqd]) ?_
   refine zk ?_
   refine nT (zs (zb (zs ?_)))
   obtain ⟨⟨a28, a29, a30, a31, a32, a33⟩, e34, hsK51⟩ := bindS hsK51
   obtain ⟨f35, f36⟩ := gtI e34
   refine zg hT hA { tk := [17] } (by (repeat (cbv; simp only [c27, f35, f36])); try cbv) (lb rfl) ?_
   refine nT (zs (zs ?_))
   refine zg hT hA {} (by (repeat (cbv; simp only [c27])); try cbv) (lb rfl) ?_
   refine nT ?_
   rcases tf (A.zle (A.len x2) v26) with c37 | c37
   ·replace hsK51 := cT c37 hsK51
    refine zt rfl (by first | rfl | simp only [c27, c37, zqa, zqb, zqc, zqd]) ?_
    refine zs ?_
    refine zg hT hA {} (by (repeat (cbv; simp only [c27, c37])); try cbv) (lb rfl) ?_
    refine nT ?_
    refine zr ?_
    refine rT ?_
    refine rB ?_
    refine rT ?_
    refine rT ?_
    refine exL hsK51 fun hx => ?_
    subst hx
    refine oxR ?_
    replace hkK51 := (eR (hK51 _ hkK51))
    refine rB ?_
    refine rT ?_
    cases soI hkK51
    exact ⟨rfl, rfl, rfl, lb rfl, _, rfl⟩
   ·replace hsK51 := cF c37 hsK51
    refine zf rfl (by first | rfl | simp only [c27, c37, zqa, zqb, zqc, zqd]) ?_
    refine zk ?_
    refine nT (zs ?_)
    obtain ⟨⟨a38, a39, a40, a41, a42, a43⟩, e44, hsK51⟩ := bindS hsK51
    obtain ⟨f45, f46⟩ := gtI e44
    refine zg hT hA { tk := [25] } (by (repeat (cbv; simp only [c27, c37, f45, f46])); try cbv) (lb rfl) ?_
    refine nT (zs (zn ?_))
    obtain ⟨r48, e47, hsK51⟩ := bindS hsK51
    refine AOps.cc hT hA { tk := [29] } (by (repeat (cbv; simp only [c27, c37])); try cbv) (lb rfl) (C97w hA e47) rfl (.inl rfl) rfl rfl rfl (lb rfl) rfl rfl ?_
    refine AOps.cd hT hA { tk := [29] } (by (repeat (cbv; simp only [c27, c37])); try cbv) (lb rfl) ?_
    refine nT (zs ?_)
    refine zg hT hA {} (by (repeat (cbv; simp only [c27, c37])); try cbv) (lb rfl) ?_
    refine nT ?_
    rcases tf (A.zeq r48 0) with c49 | c49
    ·replace hsK51 := cT c49 hsK51
     refine zf rfl (by first | rfl | simp only [c27, c37, c49, zqa, zqb, zqc, zqd]) ?_
     refine zk ?_
     refine nB ?_
     refine nT ?_
     refine zg hT hA {} (by (repeat (cbv; simp only [c27, c37, c49])); try cbv) (lb rfl) ?_
     exact nT ⟨_, (soI hsK51).symm, rfl, (by first | (cbv; done) | ((repeat (cbv; simp only [c27, c37, c49])); try cbv))⟩
    ·replace hsK51 := cF c49 hsK51
     refine zt rfl (by first | rfl | simp only [c27, c37, c49, zqa, zqb, zqc, zqd]) ?_
     refine zs ?_
     refine zg hT hA { tk := [10, 32] } (by (repeat (cbv; simp only [c27, c37, c49])); try cbv) (lb rfl) ?_
     refine nT ?_
     refine zr ?_
     refine rB ?_
     refine rT ?_
     refine rT ?_
     refine exL hsK51 fun hx => ?_
     subst hx
     refine oxR ?_
     replace hkK51 := (eR (hK51 _ hkK51))
     refine rB ?_
     refine rT ?_
     cases soI hkK51
     exact ⟨rfl, rfl, rfl, lb rfl, _, rfl⟩
  ·replace hsK51 := cF c27 hsK51
   refine zf rfl (by first | rfl | simp only [c27, zqa, zqb, zqc, zqd]) ?_
   refine AWp.exit ?_
   refine xT ?_
   refine xT ?_
   refine exL hsK51 fun hx => ?_
   subst hx
   exact oxI ⟨rfl, hkK51, (by first | (cbv; done) | ((repeat (cbv; simp only [c27])); try cbv))⟩
 ·rintro _ ⟨hkK51, rfl⟩
  have h := (eL (hK51 _ hkK51))
  refine xB ?_
  refine nT (zs (zs ?_))
  refine zg hT hA {} (by cbv) (lb rfl) ?_
  refine nT ?_
  rcases tf (A.zlt (A.len x1) (A.len x2)) with c52 | c52
  ·replace h := cT c52 h
   refine zt rfl (by first | rfl | simp only [c52, zqa, zqb, zqc, zqd]) ?_
   refine zs ?_
   refine zg hT hA {} (by (repeat (cbv; simp only [c52])); try cbv) (lb rfl) ?_
   refine nT ?_
   refine zr ?_
   refine rT ?_
   cases soI h
   exact ⟨rfl, rfl, rfl, lb rfl, _, rfl⟩
  ·replace h := cF c52 h
   refine zf rfl (by first | rfl | simp only [c52, zqa, zqb, zqc, zqd]) ?_
   refine zk ?_
   refine nT (zs ?_)
   refine zg hT hA {} (by (repeat (cbv; simp only [c52])); try cbv) (lb rfl) ?_
   refine nT ?_
   refine zr ?_
   cases soI h
   exact ⟨rfl, rfl, rfl, lb rfl, _, rfl⟩

theorem C95w {A : Ar} (hA : A = Ar.std) {x1 x2 : List D} {v5 : Int} (h : C95 A x1 x2 = some v5) : ACall Try.prog 95 [(zl 6 x1), (zl 6 x2)] [] (zi v5) [] := by
 unfold C95 at h
 refine ACall.enter hT (fn := Try.f95) Try.func95 rfl (by decide) (by simp [Try.f95]) rfl rfl rfl rfl (lb rfl) ?_
 refine zs ?_
 refine zg hT hA {} (by cbv) (lb rfl) ?_
 refine nT (zs (zn ?_))
 obtain ⟨r4, e3, h⟩ := bindS h
 refine AOps.cc hT hA { tk := [7] } (by cbv) (lb rfl) (C96w hA e3) rfl (.inl rfl) rfl rfl rfl (lb rfl) rfl rfl ?_
 refine AOps.cd hT hA { tk := [7] } (by cbv) (lb rfl) ?_
 refine nT ?_
 refine zr ?_
 cases soI h
 exact ⟨rfl, rfl, rfl, lb rfl, _, rfl⟩

theorem C94aw {A : Ar} (hA : A = Ar.std) {x1 x2 x3 x4 : Int} {x5 r : List D} (h : C94a A x1 x2 x3 x4 x5 = some r) : ACall Try.prog 94 [(.mref 7 1 x1 x2), (.func 95 [] [])] [(.cells [(.mref 7 1 x3 x4)]), .dead, .dead, .dead, .dead, .dead, .dead, (.arr 1 x5)] (.tuple []) [(.cells [(.mref 7 1 x3 x4)]), .dead, .dead, .dead, .dead, .dead, .dead, (.arr 1 r)] :=
 ACall.sortOne Try.sort94 rfl (c := (cL 6)) (fun _ => rfl) (g := 95) (caps := []) rfl (fun _ _ _ h => C95w hA h) rfl rfl h (i := 7) rfl rfl

theorem C99w {A : Ar} (hA : A = Ar.std) {x1 x2 : List D} {v46 : Bool} (h : C99 A x1 x2 = some v46) : ACall Try.prog 99 [(zl 6 x1), (zl 6 x2)] [] (.d (.bool v46)) [] := by
 unfold C99 at h
 refine ACall.enter hT (fn := Try.f99) Try.func99 rfl (by decide) (by simp [Try.f99]) rfl rfl rfl rfl (lb rfl) ?_
 refine zs ?_
 refine zg hT hA {} (by cbv) (lb rfl) ?_
 refine nT (zs (zs ?_))
 refine zg hT hA {} (by cbv) (lb rfl) ?_
 refine nT ?_
 rcases tf (A.zeq (A.len x1) (A.len x2)) with c3 | c3
 ·replace h := cT c3 h
  refine zf rfl (by first | rfl | simp only [c3, zqa, zqb, zqc, zqd]) ?_
  refine zk ?_
  refine nT (zs (zs ?_))
  refine zg hT hA {} (by (repeat (cbv; simp only [c3])); try cbv) (lb rfl) ?_
  refine nT (zb ?_)
  obtain ⟨xK45, hxK45, K45, hK45, hkK45⟩ := bindK h
  refine AWp.cutX 0 [] [] 0 (lb rfl) (fun τ => K45 (.inl ()) = some v46 ∧ τ = { env := [], heap := [], n := 26 }) ?_ ?_
  ·skip
   refine AWp.iter hxK45 [0, 1, 12, 13] [] 0 (lb rfl) (fun v24 => { env := [(0, (zl 6 x1)), (1, (zl 6 x2)), (12, (.d (.int .i64 (A.len x1)))), (13, (zi v24))], heap := [], n := 26 }) ⟨rfl, (by first | (cbv; done) | ((repeat (cbv; simp only [c3])); try cbv))⟩ ?_
   rintro v24 eK45 hsK45
   dsimp only [C99L0] at hsK45
   refine zs ?_
   refine zg hT hA {} (by cbv) (lb rfl) ?_
   refine nT (zs ?_)
   rcases tf (A.zlt v24 (A.len x1)) with c25 | c25
   ·replace hsK45 := cT c25 hsK45
    refine zt rfl (by first | rfl | simp only [c25, zqa, zqb, zqc, zqd]) ?_
    refine zk ?_
    refine nT (zs (zb (zs ?_)))
    refine zg hT hA {} (by (repeat (cbv; simp only [c25])); try cbv) (lb rfl) ?_
    refine nT (zs ?_)
    obtain ⟨⟨a26, a27, a28, a29, a30, a31⟩, e32, hsK45⟩ := bindS hsK45
    obtain ⟨f33, f34⟩ := gtI e32
    obtain ⟨⟨a35, a36, a37, a38, a39, a40⟩, e41, hsK45⟩ := bindS hsK45
    obtain ⟨f42, f43⟩ := gtI e41
    refine AWp.rd hT hA {} rfl (by (repeat (cbv; simp only [c25, f33, f34, f42, f43])); try cbv) (by kernel_rfl) (lb rfl) ?_
    refine nT ?_
    rcases tf (A.deq [(.int .i64 a26), (.int .i64 a27), (.int .i64 a28), (.int .i64 a29), (.int .i64 a30), (.int .i64 a31)] [(.int .i64 a35), (.int .i64 a36), (.int .i64 a37), (.int .i64 a38), (.int .i64 a39), (.int .i64 a40)]) with c44 | c44
    ·replace hsK45 := cT c44 hsK45
     refine zf rfl (by first | rfl | simp only [c25, c44, zqa, zqb, zqc, zqd]) ?_
     refine zk ?_
     refine nB ?_
     refine nT ?_
     refine zg hT hA {} (by (repeat (cbv; simp only [c25, c44])); try cbv) (lb rfl) ?_
     exact nT ⟨_, (soI hsK45).symm, rfl, (by first | (cbv; done) | ((repeat (cbv; simp only [c25, c44])); try cbv))⟩
    ·replace hsK45 := cF c44 hsK45
     refine zt rfl (by first | rfl | simp only [c25, c44, zqa, zqb, zqc, zqd]) ?_
     refine zs ?_
     refine zg hT hA {} (by (repeat (cbv; simp only [c25, c44])); try cbv) (lb rfl) ?_
     refine nT ?_
     refine zr ?_
     refine rB ?_
     refine rT ?_
     refine rT ?_
     refine exL hsK45 fun hx => ?_
     subst hx
     refine oxR ?_
     replace hkK45 := (eR (hK45 _ hkK45))
     refine rB ?_
     refine rT ?_
     cases soI hkK45
     exact ⟨rfl, rfl, rfl, lb rfl, _, rfl⟩
   ·replace hsK45 := cF c25 hsK45
    refine zf rfl (by first | rfl | simp only [c25, zqa, zqb, zqc, zqd]) ?_
    refine AWp.exit ?_
    refine xT ?_
    refine xT ?_
    refine exL hsK45 fun hx => ?_
    subst hx
    exact oxI ⟨rfl, hkK45, (by first | (cbv; done) | ((repeat (cbv; simp only [c25])); try cbv))⟩
  ·rintro _ ⟨hkK45, rfl⟩
   have h := (eL (hK45 _ hkK45))
   refine xB ?_
   refine nT (zs ?_)
   refine zg hT hA {} (by cbv) (lb rfl) ?_
   refine nT ?_
   refine zr ?_
   cases soI h
   exact ⟨rfl, rfl, rfl, lb rfl, _, rfl⟩
 ·replace h := cF c3 h
  refine zt rfl (by first | rfl | simp only [c3, zqa, zqb, zqc, zqd]) ?_
  refine zs ?_
  refine zg hT hA {} (by (repeat (cbv; simp only [c3])); try cbv) (lb rfl) ?_
  refine nT ?_
  refine zr ?_
  refine rT ?_
  cases soI h
  exact ⟨rfl, rfl, rfl, lb rfl, _, rfl⟩

theorem C98w {A : Ar} (hA : A = Ar.std) {x1 x2 x3 x4 : Int} {x5 : List D} {v235 v236 : Int} {v237 : List D} (h : C98 A x1 x2 x3 x4 x5 = some (v235, v236, v237)) : ACall Try.prog 98 [(.mref 7 1 x1 x2), (.func 99 [] [])] [(.cells [(.mref 7 1 x3 x4)]), .dead, .dead, .dead, .dead, .dead, .dead, (.arr 1 x5)] (.mref 7 1 v235 v236) [(.cells [(.mref 7 1 x3 x4)]), .dead, .dead, .dead, .dead, .dead, .dead, (.arr 1 v237)] := by
 unfold C98 at h
 refine ACall.enter hT (fn := Try.f98) Try.func98 rfl (by decide) (by simp [Try.f98]) rfl rfl rfl rfl (lb rfl) ?_
 refine zs ?_
 refine zg hT hA {} (by cbv) (lb rfl) ?_
 refine nT (zs (zs ?_))
 refine zg hT hA {} (by cbv) (lb rfl) ?_
 refine nT ?_
 rcases tf (A.zlt x2 2) with c6 | c6
 ·replace h := cT c6 h
  refine zt rfl (by first | rfl | simp only [c6, zqa, zqb, zqc, zqd]) ?_
  refine zs ?_
  refine zg hT hA { tk := [0, 11] } (by (repeat (cbv; simp only [c6])); try cbv) (lb rfl) ?_
  refine nT ?_
  refine zr ?_
  refine rT ?_
  cases soI h
  exact ⟨rfl, rfl, rfl, lb rfl, _, rfl⟩
 ·replace h := cF c6 h
  refine zf rfl (by first | rfl | simp only [c6, zqa, zqb, zqc, zqd]) ?_
  refine zk ?_
  refine nT (zs (zs ?_))
  refine zg hT hA {} (by (repeat (cbv; simp only [c6])); try cbv) (lb rfl) ?_
  refine nT (zb ?_)
  obtain ⟨xK234, hxK234, K234, hK234, hkK234⟩ := bindK h
  refine AWp.cutX 0 [0] [] 8 (lb rfl) (fun τ => K234 (.inl ()) = some (v235, v236, v237) ∧ τ = { env := [(0, (.mref 7 1 x1 x2))], heap := [(.cells [(.mref 7 1 x3 x4)]), .dead, .dead, .dead, .dead, .dead, .dead, (.arr 1 x5)], n := 66 }) ?_ ?_
  ·skip
   refine AWp.iter hxK234 [0, 1, 5] [] 8 (lb rfl) (fun v119 => { env := [(0, (.mref 7 1 x1 x2)), (1, (.func 99 [] [])), (5, (zi v119))], heap := [(.cells [(.mref 7 1 x3 x4)]), .dead, .dead, .dead, .dead, .dead, .dead, (.arr 1 x5)], n := 66 }) ⟨rfl, (by first | (cbv; done) | ((repeat (cbv; simp only [c6])); try cbv))⟩ ?_
   rintro v119 eK234 hsK234
   dsimp only [C98L1] at hsK234
   refine zs (zs ?_)
   refine zg hT hA {} (by cbv) (lb rfl) ?_
   refine nT ?_
   rcases tf (A.zlt v119 x2) with c120 | c120
   ·replace hsK234 := cT c120 hsK234
    refine zt rfl (by first | rfl | simp only [c120, zqa, zqb, zqc, zqd]) ?_
    refine zk ?_
    refine nT (zs (zb (zs ?_)))
    refine AWp.regionDraw rfl (lb rfl) ?_
    obtain ⟨_, e121, hsK234⟩ := bindS hsK234
    have f123 := ckI e121
    obtain ⟨_, e122, hsK234⟩ := bindS hsK234
    have f124 := ckI e122
    obtain ⟨a125, e126, hsK234⟩ := bindS hsK234
    have f127 := gcI e126
    obtain ⟨_, e128, hsK234⟩ := bindS hsK234
    have f130 := ckI e128
    obtain ⟨_, e129, hsK234⟩ := bindS hsK234
    have f131 := ckI e129
    obtain ⟨a132, e133, hsK234⟩ := bindS hsK234
    have f134 := gcI e133
    obtain ⟨r136, e135, hsK234⟩ := bindS hsK234
    refine DOps.c0 hT hA {} rfl (by (repeat (cbv; simp only [c120, f123, f124, f127, f130, f131, f134])); try cbv) (C99w hA e135) rfl rfl (lb rfl) rfl rfl ?_
    refine DOps.cd hT hA {} rfl (by (repeat (cbv; simp only [c120, f123, f124, f127, f130, f131, f134])); try cbv) (by kernel_rfl) ?_
    refine nT ?_
    rcases tf r136 with c137 | c137
    ·replace hsK234 := cT c137 hsK234
     refine zt rfl (by first | rfl | simp only [c120, c137, zqa, zqb, zqc, zqd]) ?_
     refine zs ?_
     obtain ⟨_, e138, hsK234⟩ := bindS hsK234
     have f141 := ckI e138
     obtain ⟨_, e139, hsK234⟩ := bindS hsK234
     have f142 := ckI e139
     obtain ⟨_, e140, hsK234⟩ := bindS hsK234
     have f143 := ckI e140
     refine zg hT hA {} (by (repeat (cbv; simp only [c120, c137, f141, f142, f143])); try cbv) (lb rfl) ?_
     refine nT (zs (zs ?_))
     refine zg hT hA {} (by (repeat (cbv; simp only [c120, c137])); try cbv) (lb rfl) ?_
     refine nT (zb ?_)
     obtain ⟨xK217, hxK217, K217, hK217, hkK217⟩ := bindK hsK234
     refine AWp.cutX 2 [0, 5] [] 8 (lb rfl) (fun τ => ∃ v215 v216, K217 (v215, v216) = some eK234 ∧ τ = { env := [(0, (.mref 7 1 x1 x2)), (5, (zi v215))], heap := [(.cells [(.mref 7 1 x3 x4)]), .dead, .dead, .dead, .dead, .dead, .dead, (.arr 1 v216)], n := 66 }) ?_ ?_
     ·skip
      refine AWp.iter hxK217 [0, 1, 5, 6, 7] [] 8 (lb rfl) (fun (v178, v179, v180) => { env := [(0, (.mref 7 1 x1 x2)), (1, (.func 99 [] [])), (5, (zi v178)), (6, (.mref 7 1 (A.zadd x1 v119) (A.zsub x2 v119))), (7, (zi v179))], heap := [(.cells [(.mref 7 1 x3 x4)]), .dead, .dead, .dead, .dead, .dead, .dead, (.arr 1 v180)], n := 66 }) ⟨rfl, (by first | (cbv; done) | ((repeat (cbv; simp only [c120, c137])); try cbv))⟩ ?_
      rintro ⟨v178, v179, v180⟩ eK217 hsK217
      dsimp only [C98L0] at hsK217
      refine zs (zs ?_)
      refine zg hT hA {} (by cbv) (lb rfl) ?_
      refine nT ?_
      rcases tf (A.zlt v179 (A.zsub x2 v119)) with c181 | c181
      ·replace hsK217 := cT c181 hsK217
       refine zt rfl (by first | rfl | simp only [c181, zqa, zqb, zqc, zqd]) ?_
       refine zk ?_
       refine nT (zs (zb (zs ?_)))
       refine AWp.regionDraw rfl (lb rfl) ?_
       obtain ⟨_, e182, hsK217⟩ := bindS hsK217
       have f184 := ckI e182
       obtain ⟨_, e183, hsK217⟩ := bindS hsK217
       have f185 := ckI e183
       obtain ⟨a186, e187, hsK217⟩ := bindS hsK217
       have f188 := gcI e187
       obtain ⟨_, e189, hsK217⟩ := bindS hsK217
       have f191 := ckI e189
       obtain ⟨_, e190, hsK217⟩ := bindS hsK217
       have f192 := ckI e190
       obtain ⟨a193, e194, hsK217⟩ := bindS hsK217
       have f195 := gcI e194
       obtain ⟨r197, e196, hsK217⟩ := bindS hsK217
       refine DOps.c0 hT hA {} rfl (by (repeat (cbv; simp only [c181, f184, f185, f188, f191, f192, f195])); try cbv) (C99w hA e196) rfl rfl (lb rfl) rfl rfl ?_
       refine DOps.cd hT hA {} rfl (by (repeat (cbv; simp only [c181, f184, f185, f188, f191, f192, f195])); try cbv) (by kernel_rfl) ?_
       refine nT ?_
       obtain ⟨⟨v212, v213⟩, hvK214, hsK217⟩ := bindS hsK217
       refine AWp.cutN [0, 1, 5, 6, 7] [] 8 (lb rfl) (fun τ => τ = { env := [(0, (.mref 7 1 x1 x2)), (1, (.func 99 [] [])), (5, (zi v212)), (6, (.mref 7 1 (A.zadd x1 v119) (A.zsub x2 v119))), (7, (zi v179))], heap := [(.cells [(.mref 7 1 x3 x4)]), .dead, .dead, .dead, .dead, .dead, .dead, (.arr 1 v213)], n := 66 }) ?_ ?_
       ·skip
        rcases tf r197 with c198 | c198
        ·replace hvK214 := cT c198 hvK214
         refine zf rfl (by first | rfl | simp only [c181, c198, zqa, zqb, zqc, zqd]) ?_
         refine zk ?_
         cases soI hvK214
         exact oNi ⟨rfl, (by first | (cbv; done) | ((repeat (cbv; simp only [c181, c198])); try cbv))⟩
        ·replace hvK214 := cF c198 hvK214
         refine zt rfl (by first | rfl | simp only [c181, c198, zqa, zqb, zqc, zqd]) ?_
         refine zs ?_
         obtain ⟨_, e199, hvK214⟩ := bindS hvK214
         have f201 := ckI e199
         obtain ⟨_, e200, hvK214⟩ := bindS hvK214
         have f202 := ckI e200
         obtain ⟨a203, e204, hvK214⟩ := bindS hvK214
         have f205 := gcI e204
         obtain ⟨_, e206, hvK214⟩ := bindS hvK214
         have f208 := ckI e206
         obtain ⟨_, e207, hvK214⟩ := bindS hvK214
         have f209 := ckI e207
         obtain ⟨d210, e211, hvK214⟩ := bindS hvK214
         refine zg hT hA { tk := [55] } (by (repeat (cbv; simp only [c181, c198, f201, f202, f205, f208, f209, e211])); try cbv) (lb rfl) ?_
         refine nT ?_
         refine zg hT hA {} (by (repeat (cbv; simp only [c181, c198])); try cbv) (lb rfl) ?_
         cases soI hvK214
         exact oNi ⟨rfl, (by first | (cbv; done) | ((repeat (cbv; simp only [c181, c198])); try cbv))⟩
       ·rintro _ rfl
        refine nB ?_
        refine nT ?_
        refine zg hT hA {} (by cbv) (lb rfl) ?_
        exact nT ⟨_, (soI hsK217).symm, rfl, (by cbv)⟩
      ·replace hsK217 := cF c181 hsK217
       refine zf rfl (by first | rfl | simp only [c181, zqa, zqb, zqc, zqd]) ?_
       refine AWp.exit ?_
       refine xT ?_
       refine xT ?_
       refine exL hsK217 fun hx => ?_
       subst hx
       exact oxI ⟨rfl, _, _, hkK217, (by first | (cbv; done) | ((repeat (cbv; simp only [c181])); try cbv))⟩
     ·rintro _ ⟨v215, v216, hkK217, rfl⟩
      have hsK234 := (hK217 _ hkK217)
      refine xB ?_
      refine nT (zs ?_)
      obtain ⟨_, e218, hsK234⟩ := bindS hsK234
      have f221 := ckI e218
      obtain ⟨_, e219, hsK234⟩ := bindS hsK234
      have f222 := ckI e219
      obtain ⟨_, e220, hsK234⟩ := bindS hsK234
      have f223 := ckI e220
      obtain ⟨_, e224, hsK234⟩ := bindS hsK234
      have f225 := ckI e224
      refine zg hT hA {} (by (repeat (cbv; simp only [f221, f222, f223, f225])); try cbv) (lb rfl) ?_
      refine nT (zs ?_)
      obtain ⟨_, e226, hsK234⟩ := bindS hsK234
      have f229 := ckI e226
      obtain ⟨_, e227, hsK234⟩ := bindS hsK234
      have f230 := ckI e227
      obtain ⟨_, e228, hsK234⟩ := bindS hsK234
      have f231 := ckI e228
      refine zg hT hA { tk := [64] } (by (repeat (cbv; simp only [f229, f230, f231])); try cbv) (lb rfl) ?_
      refine nT ?_
      refine zr ?_
      refine rB ?_
      refine rT ?_
      refine rT ?_
      refine exL hsK234 fun hx => ?_
      subst hx
      refine oxR ?_
      replace hkK234 := (eR (hK234 _ hkK234))
      refine rB ?_
      refine rT ?_
      cases soI hkK234
      exact ⟨rfl, rfl, rfl, lb rfl, _, rfl⟩
    ·replace hsK234 := cF c137 hsK234
     refine zf rfl (by first | rfl | simp only [c120, c137, zqa, zqb, zqc, zqd]) ?_
     refine zk ?_
     refine nB ?_
     refine nT ?_
     refine zg hT hA {} (by (repeat (cbv; simp only [c120, c137])); try cbv) (lb rfl) ?_
     exact nT ⟨_, (soI hsK234).symm, rfl, (by first | (cbv; done) | ((repeat (cbv; simp only [c120, c137])); try cbv))⟩
   ·replace hsK234 := cF c120 hsK234
    refine zf rfl (by first | rfl | simp only [c120, zqa, zqb, zqc, zqd]) ?_
    refine AWp.exit ?_
    refine xT ?_
    refine xT ?_
    refine exL hsK234 fun hx => ?_
    subst hx
    exact oxI ⟨rfl, hkK234, (by first | (cbv; done) | ((repeat (cbv; simp only [c120])); try cbv))⟩
  ·rintro _ ⟨hkK234, rfl⟩
   have h := (eL (hK234 _ hkK234))
   refine xB ?_
   refine nT (zs ?_)
   refine zg hT hA { tk := [0, 65] } (by cbv) (lb rfl) ?_
   refine nT ?_
   refine zr ?_
   cases soI h
   exact ⟨rfl, rfl, rfl, lb rfl, _, rfl⟩

theorem C98aw {A : Ar} (hA : A = Ar.std) {x1 v105 : List D} (h : C98a A x1 = some v105) : ACall Try.prog 98 [(zl 1 x1), (.func 99 [] [])] [] (zl 1 v105) [] := by
 unfold C98a at h
 refine ACall.enter hT (fn := Try.f98) Try.func98 rfl (by decide) (by simp [Try.f98]) rfl rfl rfl rfl (lb rfl) ?_
 refine zs ?_
 refine zg hT hA {} (by cbv) (lb rfl) ?_
 refine nT (zs (zs ?_))
 refine zg hT hA {} (by cbv) (lb rfl) ?_
 refine nT ?_
 rcases tf (A.zlt (A.len x1) 2) with c2 | c2
 ·replace h := cT c2 h
  refine zt rfl (by first | rfl | simp only [c2, zqa, zqb, zqc, zqd]) ?_
  refine zs ?_
  refine zg hT hA { tk := [0, 11] } (by (repeat (cbv; simp only [c2])); try cbv) (lb rfl) ?_
  refine nT ?_
  refine zr ?_
  refine rT ?_
  cases soI h
  exact ⟨rfl, rfl, rfl, lb rfl, _, rfl⟩
 ·replace h := cF c2 h
  refine zf rfl (by first | rfl | simp only [c2, zqa, zqb, zqc, zqd]) ?_
  refine zk ?_
  refine nT (zs (zs ?_))
  refine zg hT hA {} (by (repeat (cbv; simp only [c2])); try cbv) (lb rfl) ?_
  refine nT (zb ?_)
  obtain ⟨xK104, hxK104, K104, hK104, hkK104⟩ := bindK h
  refine AWp.cutX 0 [0] [] 0 (lb rfl) (fun τ => K104 () = some v105 ∧ τ = { env := [(0, (zl 1 x1))], heap := [], n := 66 }) ?_ ?_
  ·skip
   refine AWp.iter hxK104 [0, 1, 5] [] 0 (lb rfl) (fun v53 => { env := [(0, (zl 1 x1)), (1, (.func 99 [] [])), (5, (zi v53))], heap := [], n := 66 }) ⟨rfl, (by first | (cbv; done) | ((repeat (cbv; simp only [c2])); try cbv))⟩ ?_
   rintro v53 eK104 hsK104
   dsimp only [C98aL1] at hsK104
   refine zs (zs ?_)
   refine zg hT hA {} (by cbv) (lb rfl) ?_
   refine nT ?_
   rcases tf (A.zlt v53 (A.len x1)) with c54 | c54
   ·replace hsK104 := cT c54 hsK104
    refine zt rfl (by first | rfl | simp only [c54, zqa, zqb, zqc, zqd]) ?_
    refine zk ?_
    refine nT (zs (zb (zs ?_)))
    refine AWp.regionDraw rfl (lb rfl) ?_
    obtain ⟨a55, e56, hsK104⟩ := bindS hsK104
    obtain ⟨f57, f58⟩ := gtI e56
    obtain ⟨a59, e60, hsK104⟩ := bindS hsK104
    obtain ⟨f61, f62⟩ := gtI e60
    obtain ⟨r64, e63, hsK104⟩ := bindS hsK104
    refine DOps.c0 hT hA {} rfl (by (repeat (cbv; simp only [c54, f57, f58, f61, f62])); try cbv) (C99w hA e63) rfl rfl (lb rfl) rfl rfl ?_
    refine DOps.cd hT hA {} rfl (by (repeat (cbv; simp only [c54, f57, f58, f61, f62])); try cbv) (by kernel_rfl) ?_
    refine nT ?_
    rcases tf r64 with c65 | c65
    ·replace hsK104 := cT c65 hsK104
     refine zt rfl (by first | rfl | simp only [c54, c65, zqa, zqb, zqc, zqd]) ?_
     refine zs ?_
     obtain ⟨l66, e67, hsK104⟩ := bindS hsK104
     obtain ⟨f68, f69, f70, f71⟩ := slI e67
     refine zg hT hA {} (by (repeat (cbv; simp only [c54, c65, f68, f69, f70, f71])); try cbv) (lb rfl) ?_
     refine nT (zs (zs ?_))
     refine zg hT hA {} (by (repeat (cbv; simp only [c54, c65])); try cbv) (lb rfl) ?_
     refine nT (zb ?_)
     obtain ⟨xK97, hxK97, K97, hK97, hkK97⟩ := bindK hsK104
     refine AWp.cutX 2 [0, 5] [] 0 (lb rfl) (fun τ => K97 () = some eK104 ∧ τ = { env := [(0, (zl 1 x1)), (5, (zi v53))], heap := [], n := 66 }) ?_ ?_
     ·skip
      refine AWp.iter hxK97 [0, 1, 5, 6, 7] [] 0 (lb rfl) (fun v84 => { env := [(0, (zl 1 x1)), (1, (.func 99 [] [])), (5, (zi v53)), (6, (zl 1 l66)), (7, (zi v84))], heap := [], n := 66 }) ⟨rfl, (by first | (cbv; done) | ((repeat (cbv; simp only [c54, c65])); try cbv))⟩ ?_
      rintro v84 eK97 hsK97
      dsimp only [C98aL0] at hsK97
      refine zs (zs ?_)
      refine zg hT hA {} (by cbv) (lb rfl) ?_
      refine nT ?_
      rcases tf (A.zlt v84 (A.len l66)) with c85 | c85
      ·replace hsK97 := cT c85 hsK97
       refine zt rfl (by first | rfl | simp only [c85, zqa, zqb, zqc, zqd]) ?_
       refine zk ?_
       refine nT (zs (zb (zs ?_)))
       refine AWp.regionDraw rfl (lb rfl) ?_
       obtain ⟨a86, e87, hsK97⟩ := bindS hsK97
       obtain ⟨f88, f89⟩ := gtI e87
       obtain ⟨a90, e91, hsK97⟩ := bindS hsK97
       obtain ⟨f92, f93⟩ := gtI e91
       obtain ⟨r95, e94, hsK97⟩ := bindS hsK97
       refine DOps.c0 hT hA {} rfl (by (repeat (cbv; simp only [c85, f88, f89, f92, f93])); try cbv) (C99w hA e94) rfl rfl (lb rfl) rfl rfl ?_
       refine DOps.cd hT hA {} rfl (by (repeat (cbv; simp only [c85, f88, f89, f92, f93])); try cbv) (by kernel_rfl) ?_
       refine nT ?_
       rcases tf r95 with c96 | c96
       ·replace hsK97 := cT c96 hsK97
        refine zf rfl (by first | rfl | simp only [c85, c96, zqa, zqb, zqc, zqd]) ?_
        refine zk ?_
        refine nB ?_
        refine nT ?_
        refine zg hT hA {} (by (repeat (cbv; simp only [c85, c96])); try cbv) (lb rfl) ?_
        exact nT ⟨_, (soI hsK97).symm, rfl, (by first | (cbv; done) | ((repeat (cbv; simp only [c85, c96])); try cbv))⟩
       ·replace hsK97 := cF c96 hsK97
        refine zt rfl (by first | rfl | simp only [c85, c96, zqa, zqb, zqc, zqd]) ?_
        refine zs ?_
        cases hsK97
      ·replace hsK97 := cF c85 hsK97
       refine zf rfl (by first | rfl | simp only [c85, zqa, zqb, zqc, zqd]) ?_
       refine AWp.exit ?_
       refine xT ?_
       refine xT ?_
       refine exL hsK97 fun hx => ?_
       subst hx
       exact oxI ⟨rfl, hkK97, (by first | (cbv; done) | ((repeat (cbv; simp only [c85])); try cbv))⟩
     ·rintro _ ⟨hkK97, rfl⟩
      have hsK104 := (hK97 _ hkK97)
      refine xB ?_
      refine nT (zs ?_)
      obtain ⟨l98, e99, hsK104⟩ := bindS hsK104
      obtain ⟨f100, f101, f102, f103⟩ := slI e99
      cases hsK104
    ·replace hsK104 := cF c65 hsK104
     refine zf rfl (by first | rfl | simp only [c54, c65, zqa, zqb, zqc, zqd]) ?_
     refine zk ?_
     refine nB ?_
     refine nT ?_
     refine zg hT hA {} (by (repeat (cbv; simp only [c54, c65])); try cbv) (lb rfl) ?_
     exact nT ⟨_, (soI hsK104).symm, rfl, (by first | (cbv; done) | ((repeat (cbv; simp only [c54, c65])); try cbv))⟩
   ·replace hsK104 := cF c54 hsK104
    refine zf rfl (by first | rfl | simp only [c54, zqa, zqb, zqc, zqd]) ?_
    refine AWp.exit ?_
    refine xT ?_
    refine xT ?_
    refine exL hsK104 fun hx => ?_
    subst hx
    exact oxI ⟨rfl, hkK104, (by first | (cbv; done) | ((repeat (cbv; simp only [c54])); try cbv))⟩
  ·rintro _ ⟨hkK104, rfl⟩
   have h := (hK104 _ hkK104)
   refine xB ?_
   refine nT (zs ?_)
   refine zg hT hA { tk := [0, 65] } (by cbv) (lb rfl) ?_
   refine nT ?_
   refine zr ?_
   cases soI h
   exact ⟨rfl, rfl, rfl, lb rfl, _, rfl⟩

theorem C38w {A : Ar} (hA : A = Ar.std) {x1 x2 : List D} {x3 : Int} {v31 : List D} {v32 : Int} (h : C38 A x1 x2 x3 = some (v31, v32)) : ACall Try.prog 38 [(zl 1 x1), (zl 1 x2), (zi x3)] [] (.tuple [(zl 1 v31), (zi v32)]) [] := by
 unfold C38 at h
 refine ACall.enterR hT (fn := Try.f38) Try.func38 rfl (by decide) (by simp [Try.f38]) rfl rfl rfl rfl rfl ?_
 refine AWpR.seq ?_
 refine AWpT.of ?_
 refine zg hT hA {} (by cbv) (lb rfl) ?_
 refine nT ?_
 refine AWpR.seq ?_
 refine AWpT.of ?_
 refine zs (zn ?_)
 obtain ⟨r5, e4, h⟩ := bindS h
 refine AOps.cc hT hA {} (by cbv) (lb rfl) (C89w hA e4) rfl (.inl rfl) rfl rfl rfl (lb rfl) rfl rfl ?_
 refine AOps.cd hT hA {} (by cbv) (lb rfl) ?_
 refine nT (zb (zs ?_))
 refine zg hT hA {} (by cbv) (lb rfl) ?_
 refine nT ?_
 rcases tf (A.zeq r5 0) with c6 | c6
 ·replace h := cT c6 h
  refine zf rfl (by first | rfl | simp only [c6, zqa, zqb, zqc, zqd]) ?_
  refine zs (zn ?_)
  obtain ⟨r8, e7, h⟩ := bindS h
  refine AOps.cc hT hA {} (by (repeat (cbv; simp only [c6])); try cbv) (lb rfl) (C84w hA e7) rfl (.inl rfl) rfl rfl rfl (lb rfl) rfl rfl ?_
  refine AOps.cd hT hA {} (by (repeat (cbv; simp only [c6])); try cbv) (lb rfl) ?_
  refine nT ?_
  rcases tf r8 with c9 | c9
  ·replace h := cT c9 h
   refine zf rfl (by first | rfl | simp only [c6, c9, zqa, zqb, zqc, zqd]) ?_
   refine zk ?_
   refine nB ?_
   refine nT ?_
   refine AWpR.seq ?_
   refine AWpT.of ?_
   refine zg hT hA { esc := [9] } (by (repeat (cbv; simp only [c6, c9])); try cbv) (lb rfl) ?_
   refine nT ?_
   refine AWpR.seq ?_
   refine AWpT.of ?_
   refine zn ?_
   obtain ⟨⟨r11, r12⟩, e10, h⟩ := bindS h
   refine AOps.cc hT hA {} (by (repeat (cbv; simp only [c6, c9])); try cbv) (lb rfl) (ACall.shift (C69w hA e10) rfl rfl [(.cells [(.own 1 [])])] rfl rfl rfl rfl) rfl (.inl rfl) rfl rfl rfl (lb rfl) rfl rfl ?_
   obtain ⟨⟨r14, r15⟩, e13, h⟩ := bindS h
   refine AOps.cc hT hA {} (by (repeat (cbv; simp only [c6, c9])); try cbv) (lb rfl) (C85w hA e13) rfl (.inl rfl) rfl rfl rfl (lb rfl) rfl rfl ?_
   refine AOps.cd hT hA {} (by (repeat (cbv; simp only [c6, c9])); try cbv) (lb rfl) ?_
   refine nT ?_
   refine AWpR.seq2 ?_
   rcases tf (A.zlt 0 (A.len r15)) with c16 | c16
   ·replace h := cT c16 h
    obtain ⟨_, e17, h⟩ := bindS h
    refine AWpR.thawC [9] 0 0 rfl rfl (neL hA c16) (ckI e17) (lenL hA) rfl rfl (show AWpR _ _ _ { env := [(9, (.ptr 0 0))], heap := [(.cells [(.mref 7 1 0 (A.len r15))]), .dead, .dead, .dead, .dead, .dead, .dead, (.arr 1 r15)], n := 31 } from ?_)
    refine AWpR.of ?_
    refine AWpT.of ?_
    refine zn ?_
    obtain ⟨r20, e19, h⟩ := bindS h
    refine AOps.cc hT hA {} (by (repeat (cbv; simp only [c6, c9, c16])); try cbv) (lb rfl) (C94aw hA e19) rfl (.inl rfl) rfl rfl rfl (lb rfl) rfl rfl ?_
    refine AOps.cd hT hA {} (by (repeat (cbv; simp only [c6, c9, c16])); try cbv) (lb rfl) ?_
    refine nT ?_
    refine AWpR.of ?_
    refine AWpT.of ?_
    refine zs (zn ?_)
    obtain ⟨⟨r22, r23, r24⟩, e21, h⟩ := bindS h
    refine AOps.cc hT hA {} (by (repeat (cbv; simp only [c6, c9, c16])); try cbv) (lb rfl) (C98w hA e21) rfl (.inl rfl) rfl rfl rfl (lb rfl) rfl rfl ?_
    refine AOps.cd hT hA {} (by (repeat (cbv; simp only [c6, c9, c16])); try cbv) (lb rfl) ?_
    refine nT ?_
    obtain ⟨l25, e26, h⟩ := bindS h
    obtain ⟨f27, f28⟩ := fzI hA e26
    refine AWp.freeze (s := 6) (i := 7) rfl rfl f27 f28 ?_
    refine zr ?_
    cases soI h
    exact ⟨rfl, rfl, rfl, lb rfl, _, rfl⟩
   ·replace h := cF c16 h
    refine AWpR.of ?_
    refine AWpT.of ?_
    refine zn ?_
    obtain ⟨_, e18, h⟩ := bindS h
    refine AOps.cc hT hA {} (by (repeat (cbv; simp only [c6, c9, c16])); try cbv) (lb rfl) (C94w hA e18) rfl (.inr rfl) rfl rfl rfl (lb rfl) rfl rfl ?_
    refine AOps.cd hT hA {} (by (repeat (cbv; simp only [c6, c9, c16])); try cbv) (lb rfl) ?_
    refine nT ?_
    refine AWpR.of ?_
    refine AWpT.of ?_
    refine zs (zn ?_)
    obtain ⟨r30, e29, h⟩ := bindS h
    refine AOps.cc hT hA {} (by (repeat (cbv; simp only [c6, c9, c16])); try cbv) (lb rfl) (C98aw hA e29) rfl (.inr rfl) rfl rfl rfl (lb rfl) rfl rfl ?_
    refine AOps.cd hT hA {} (by (repeat (cbv; simp only [c6, c9, c16])); try cbv) (lb rfl) ?_
    refine nT ?_
    refine zr ?_
    cases soI h
    exact ⟨rfl, rfl, rfl, lb rfl, _, rfl⟩
  ·replace h := cF c9 h
   refine zt rfl (by first | rfl | simp only [c6, c9, zqa, zqb, zqc, zqd]) ?_
   refine zs ?_
   refine zg hT hA {} (by (repeat (cbv; simp only [c6, c9])); try cbv) (lb rfl) ?_
   refine nT ?_
   refine zr ?_
   refine rB ?_
   refine rT ?_
   cases soI h
   exact ⟨rfl, rfl, rfl, lb rfl, _, rfl⟩
 ·replace h := cF c6 h
  refine zt rfl (by first | rfl | simp only [c6, zqa, zqb, zqc, zqd]) ?_
  refine zs ?_
  refine zg hT hA {} (by (repeat (cbv; simp only [c6])); try cbv) (lb rfl) ?_
  refine nT ?_
  refine zr ?_
  refine rB ?_
  refine rT ?_
  cases soI h
  exact ⟨rfl, rfl, rfl, lb rfl, _, rfl⟩

theorem C40w {A : Ar} (hA : A = Ar.std) {x1 x2 : List D} {v30 : Bool} (h : C40 A x1 x2 = some v30) : ACall Try.prog 40 [(zl 1 x1), (zl 1 x2)] [] (.d (.bool v30)) [] := by
 unfold C40 at h
 refine ACall.enter hT (fn := Try.f40) Try.func40 rfl (by decide) (by simp [Try.f40]) rfl rfl rfl rfl (lb rfl) ?_
 refine zs ?_
 refine zg hT hA {} (by cbv) (lb rfl) ?_
 refine nT (zs (zs ?_))
 refine zg hT hA {} (by cbv) (lb rfl) ?_
 refine nT ?_
 rcases tf (A.zeq (A.len x1) (A.len x2)) with c3 | c3
 ·replace h := cT c3 h
  refine zf rfl (by first | rfl | simp only [c3, zqa, zqb, zqc, zqd]) ?_
  refine zk ?_
  refine nT (zs (zs ?_))
  refine zg hT hA {} (by (repeat (cbv; simp only [c3])); try cbv) (lb rfl) ?_
  refine nT (zb ?_)
  obtain ⟨xK29, hxK29, K29, hK29, hkK29⟩ := bindK h
  refine AWp.cutX 0 [] [] 0 (lb rfl) (fun τ => K29 (.inl ()) = some v30 ∧ τ = { env := [], heap := [], n := 27 }) ?_ ?_
  ·skip
   refine AWp.iter hxK29 [0, 1, 5] [] 0 (lb rfl) (fun v16 => { env := [(0, (zl 1 x1)), (1, (zl 1 x2)), (5, (zi v16))], heap := [], n := 27 }) ⟨rfl, (by first | (cbv; done) | ((repeat (cbv; simp only [c3])); try cbv))⟩ ?_
   rintro v16 eK29 hsK29
   dsimp only [C40L0] at hsK29
   refine zs (zs ?_)
   refine zg hT hA {} (by cbv) (lb rfl) ?_
   refine nT ?_
   rcases tf (A.zlt v16 (A.len x1)) with c17 | c17
   ·replace hsK29 := cT c17 hsK29
    refine zt rfl (by first | rfl | simp only [c17, zqa, zqb, zqc, zqd]) ?_
    refine zk ?_
    refine nT (zs (zb (zs ?_)))
    refine AWp.regionDraw rfl (lb rfl) ?_
    obtain ⟨a18, e19, hsK29⟩ := bindS hsK29
    obtain ⟨f20, f21⟩ := gtI e19
    obtain ⟨a22, e23, hsK29⟩ := bindS hsK29
    obtain ⟨f24, f25⟩ := gtI e23
    obtain ⟨r27, e26, hsK29⟩ := bindS hsK29
    refine DOps.c0 hT hA {} rfl (by (repeat (cbv; simp only [c17, f20, f21, f24, f25])); try cbv) (C17w hA e26) rfl rfl (lb rfl) rfl rfl ?_
    refine DOps.cd hT hA {} rfl (by (repeat (cbv; simp only [c17, f20, f21, f24, f25])); try cbv) (by kernel_rfl) ?_
    refine nT ?_
    rcases tf r27 with c28 | c28
    ·replace hsK29 := cT c28 hsK29
     refine zf rfl (by first | rfl | simp only [c17, c28, zqa, zqb, zqc, zqd]) ?_
     refine zk ?_
     refine nB ?_
     refine nT ?_
     refine zg hT hA {} (by (repeat (cbv; simp only [c17, c28])); try cbv) (lb rfl) ?_
     exact nT ⟨_, (soI hsK29).symm, rfl, (by first | (cbv; done) | ((repeat (cbv; simp only [c17, c28])); try cbv))⟩
    ·replace hsK29 := cF c28 hsK29
     refine zt rfl (by first | rfl | simp only [c17, c28, zqa, zqb, zqc, zqd]) ?_
     refine zs ?_
     refine zg hT hA {} (by (repeat (cbv; simp only [c17, c28])); try cbv) (lb rfl) ?_
     refine nT ?_
     refine zr ?_
     refine rB ?_
     refine rT ?_
     refine rT ?_
     refine exL hsK29 fun hx => ?_
     subst hx
     refine oxR ?_
     replace hkK29 := (eR (hK29 _ hkK29))
     refine rB ?_
     refine rT ?_
     cases soI hkK29
     exact ⟨rfl, rfl, rfl, lb rfl, _, rfl⟩
   ·replace hsK29 := cF c17 hsK29
    refine zf rfl (by first | rfl | simp only [c17, zqa, zqb, zqc, zqd]) ?_
    refine AWp.exit ?_
    refine xT ?_
    refine xT ?_
    refine exL hsK29 fun hx => ?_
    subst hx
    exact oxI ⟨rfl, hkK29, (by first | (cbv; done) | ((repeat (cbv; simp only [c17])); try cbv))⟩
  ·rintro _ ⟨hkK29, rfl⟩
   have h := (eL (hK29 _ hkK29))
   refine xB ?_
   refine nT (zs ?_)
   refine zg hT hA {} (by cbv) (lb rfl) ?_
   refine nT ?_
   refine zr ?_
   cases soI h
   exact ⟨rfl, rfl, rfl, lb rfl, _, rfl⟩
 ·replace h := cF c3 h
  refine zt rfl (by first | rfl | simp only [c3, zqa, zqb, zqc, zqd]) ?_
  refine zs ?_
  refine zg hT hA {} (by (repeat (cbv; simp only [c3])); try cbv) (lb rfl) ?_
  refine nT ?_
  refine zr ?_
  refine rT ?_
  cases soI h
  exact ⟨rfl, rfl, rfl, lb rfl, _, rfl⟩

theorem C90w {A : Ar} (hA : A = Ar.std) {x1 x2 : List D} {x3 x4 x5 x6 x7 x8 x9 x10 x11 x12 x13 x14 x15 x16 x17 x18 x19 x20 : Int} {x21 x22 x23 : List D} {x24 v25 : Int} (h : C90 A x1 x2 x3 x4 x5 x6 x7 x8 x9 x10 x11 x12 x13 x14 x15 x16 x17 x18 x19 x20 x21 x22 x23 x24 = some v25) : ACall Try.prog 90 [(.d (.ref [(.list 1 x1), (.list 1 x2), (.int .i64 x3), (.int .i64 x4), (.int .i64 x5), (.int .i64 x6), (.int .i64 x7), (.int .i64 x8), (.int .i64 x9), (.int .i64 x10), (.int .i64 x11), (.int .i64 x12), (.int .i64 x13), (.int .i64 x14), (.int .i64 x15), (.int .i64 x16), (.int .i64 x17), (.int .i64 x18), (.int .i64 x19), (.int .i64 x20), (.list 6 x21), (.list 1 x22)])), (zl 1 x23), (.ptr 0 0)] [(.cells [(zi x24)])] (.d (.bool true)) [(.cells [(zi v25)])] := by
 unfold C90 at h
 refine ACall.enter hT (fn := Try.f90) Try.func90 rfl (by decide) (by simp [Try.f90]) rfl rfl rfl rfl (lb rfl) ?_
 refine zs ?_
 refine zg hT hA {} (by cbv) (lb rfl) ?_
 refine nT (zs ?_)
 refine zg hT hA { tk := [7] } (by cbv) (lb rfl) ?_
 refine nT (zs ?_)
 refine zg hT hA {} (by cbv) (lb rfl) ?_
 refine nT ?_
 refine zr ?_
 cases soI h
 exact ⟨rfl, rfl, rfl, lb rfl, _, rfl⟩

theorem C85cBw {A : Ar} (hA : A = Ar.std) {self152 : List D → List D → Int → Int → Int → Int → Int → Int → Int → Int → Int → Int → Int → Int → Int → Int → Int → Int → Int → Int → List D → List D → Int → List D → List D → Int → (Option (Bool × Int))} (ih152 : ∀ {x1 x2 : List D} {x3 x4 x5 x6 x7 x8 x9 x10 x11 x12 x13 x14 x15 x16 x17 x18 x19 x20 : Int} {x21 x22 : List D} {x23 : Int} {x24 x25 : List D} {x26 : Int} {y1 : Bool} {y2 : Int}, self152 x1 x2 x3 x4 x5 x6 x7 x8 x9 x10 x11 x12 x13 x14 x15 x16 x17 x18 x19 x20 x21 x22 x23 x24 x25 x26 = some (y1, y2) → ACall Try.prog 85 [(.d (.agg [(.list 1 x1), (.list 1 x2), (.int .i64 x3), (.int .i64 x4), (.int .i64 x5), (.int .i64 x6), (.int .i64 x7), (.int .i64 x8), (.int .i64 x9), (.int .i64 x10), (.int .i64 x11), (.int .i64 x12), (.int .i64 x13), (.int .i64 x14), (.int .i64 x15), (.int .i64 x16), (.int .i64 x17), (.int .i64 x18), (.int .i64 x19), (.int .i64 x20), (.list 6 x21), (.list 1 x22)])), (zi x23), (zl 1 x24), (zl 1 x25), (.func 90 [] [(.ptr 0 0)])] [(.cells [(zi x26)])] (.d (.bool y1)) [(.cells [(zi y2)])]) {x1 x2 : List D} {x3 x4 x5 x6 x7 x8 x9 x10 x11 x12 x13 x14 x15 x16 x17 x18 x19 x20 : Int} {x21 x22 : List D} {x23 : Int} {x24 x25 : List D} {x26 : Int} {v196 : Bool} {v197 : Int} (h : C85cB A self152 x1 x2 x3 x4 x5 x6 x7 x8 x9 x10 x11 x12 x13 x14 x15 x16 x17 x18 x19 x20 x21 x22 x23 x24 x25 x26 = some (v196, v197)) : ACall Try.prog 85 [(.d (.agg [(.list 1 x1), (.list 1 x2), (.int .i64 x3), (.int .i64 x4), (.int .i64 x5), (.int .i64 x6), (.int .i64 x7), (.int .i64 x8), (.int .i64 x9), (.int .i64 x10), (.int .i64 x11), (.int .i64 x12), (.int .i64 x13), (.int .i64 x14), (.int .i64 x15), (.int .i64 x16), (.int .i64 x17), (.int .i64 x18), (.int .i64 x19), (.int .i64 x20), (.list 6 x21), (.list 1 x22)])), (zi x23), (zl 1 x24), (zl 1 x25), (.func 90 [] [(.ptr 0 0)])] [(.cells [(zi x26)])] (.d (.bool v196)) [(.cells [(zi v197)])] := by
 unfold C85cB at h
 refine ACall.enter hT (fn := Try.f85) Try.func85 rfl (by decide) (by simp [Try.f85]) rfl rfl rfl rfl (lb rfl) ?_
 refine zs ?_
 refine zg hT hA { esc := [5] } (by cbv) (lb rfl) ?_
 refine nT (zs (zn ?_))
 obtain ⟨r28, e27, h⟩ := bindS h
 refine AOps.cc hT hA {} (by cbv) (lb rfl) (ACall.emb (C56aw hA e27) [some 1] [(.cells [(zi x26)]), (.cells [(zl 1 x1), (zl 1 x2), (zi x3), (zi x4), (zi x5), (zi x6), (zi x7), (zi x8), (zi x9), (zi x10), (zi x11), (zi x12), (zi x13), (zi x14), (zi x15), (zi x16), (zi x17), (zi x18), (zi x19), (zi x20), (zl 6 x21), (zl 1 x22)])] rfl rfl rfl rfl rfl rfl rfl) rfl (.inl rfl) rfl rfl rfl (lb rfl) rfl rfl ?_
 refine AOps.cd hT hA {} (by cbv) (lb rfl) ?_
 refine nT (zs (zs ?_))
 obtain ⟨v30, hvK31, h⟩ := bindS h
 refine AWp.cutW (fun τ => τ = { env := [(1, (zi x23)), (2, (zl 1 x24)), (3, (zl 1 x25)), (4, (.func 90 [] [(.ptr 0 0)])), (5, (.ptr 1 0)), (11, (zl 1 r28)), (24, (.d (.bool v30)))], heap := [(.cells [(zi x26)]), (.cells [(zl 1 x1), (zl 1 x2), (zi x3), (zi x4), (zi x5), (zi x6), (zi x7), (zi x8), (zi x9), (zi x10), (zi x11), (zi x12), (zi x13), (zi x14), (zi x15), (zi x16), (zi x17), (zi x18), (zi x19), (zi x20), (zl 6 x21), (zl 1 x22)])], n := 55 }) ?_ ?_
 ·skip
  rcases tf (A.zeq (A.len r28) 0) with c29 | c29
  ·replace hvK31 := cT c29 hvK31
   refine zg hT hA {} (by (repeat (cbv; simp only [c29])); try cbv) (lb rfl) ?_
   cases soI hvK31
   exact oWi ⟨_, (Wk.ren [some 0, some 1] [1, 2, 3, 4, 5, 11, 24] rfl (by first | (cbv; done) | ((repeat (cbv; simp only [c29])); try cbv))), rfl⟩
  ·replace hvK31 := cF c29 hvK31
   refine zg hT hA {} (by (repeat (cbv; simp only [c29])); try cbv) (lb rfl) ?_
   cases soI hvK31
   exact oWi ⟨_, (Wk.ren [some 0, some 1] [1, 2, 3, 4, 5, 11, 24] rfl (by first | (cbv; done) | ((repeat (cbv; simp only [c29])); try cbv))), rfl⟩
 ·rintro _ rfl
  refine nT ?_
  rcases tf v30 with c32 | c32
  ·replace h := cT c32 h
   refine zt rfl (by first | rfl | simp only [c32, zqa, zqb, zqc, zqd]) ?_
   refine zs ?_
   refine AWp.weak (Wk.freezeObj 1 [5] (ds := [(.list 1 x1), (.list 1 x2), (.int .i64 x3), (.int .i64 x4), (.int .i64 x5), (.int .i64 x6), (.int .i64 x7), (.int .i64 x8), (.int .i64 x9), (.int .i64 x10), (.int .i64 x11), (.int .i64 x12), (.int .i64 x13), (.int .i64 x14), (.int .i64 x15), (.int .i64 x16), (.int .i64 x17), (.int .i64 x18), (.int .i64 x19), (.int .i64 x20), (.list 6 x21), (.list 1 x22)]) rfl rfl) ?_
   refine zn ?_
   obtain ⟨r34, e33, h⟩ := bindS h
   refine AOps.cc hT hA { tk := [27] } (by (repeat (cbv; simp only [c32])); try cbv) (lb rfl) (C90w hA e33) rfl (.inr rfl) rfl rfl rfl (lb rfl) rfl rfl ?_
   refine AOps.cd hT hA { tk := [27] } (by (repeat (cbv; simp only [c32])); try cbv) (lb rfl) ?_
   refine nT ?_
   refine zr ?_
   refine rT ?_
   cases soI h
   exact ⟨rfl, rfl, rfl, lb rfl, _, rfl⟩
  ·replace h := cF c32 h
   refine zf rfl (by first | rfl | simp only [c32, zqa, zqb, zqc, zqd]) ?_
   refine zk ?_
   refine nT (zs (zs ?_))
   refine zg hT hA {} (by (repeat (cbv; simp only [c32])); try cbv) (lb rfl) ?_
   refine nT (zb ?_)
   obtain ⟨xK195, hxK195, K195, hK195, hkK195⟩ := bindK h
   refine AWp.cutX 0 [] [] 2 (lb rfl) (fun τ => ∃ v171, K195 (.inl v171) = some (v196, v197) ∧ τ = { env := [], heap := [(.cells [(zi v171)]), (.cells [(zl 1 x1), (zl 1 x2), (zi x3), (zi x4), (zi x5), (zi x6), (zi x7), (zi x8), (zi x9), (zi x10), (zi x11), (zi x12), (zi x13), (zi x14), (zi x15), (zi x16), (zi x17), (zi x18), (zi x19), (zi x20), (zl 6 x21), (zl 1 x22)])], n := 55 }) ?_ ?_
   ·skip
    refine AWp.iter hxK195 [1, 2, 3, 4, 5, 28, 29, 30] [] 2 (lb rfl) (fun (v102, v103) => { env := [(1, (zi x23)), (2, (zl 1 x24)), (3, (zl 1 x25)), (4, (.func 90 [] [(.ptr 0 0)])), (5, (.ptr 1 0)), (28, (zl 1 r28)), (29, (.d (.int .i64 (A.len r28)))), (30, (zi v102))], heap := [(.cells [(zi v103)]), (.cells [(zl 1 x1), (zl 1 x2), (zi x3), (zi x4), (zi x5), (zi x6), (zi x7), (zi x8), (zi x9), (zi x10), (zi x11), (zi x12), (zi x13), (zi x14), (zi x15), (zi x16), (zi x17), (zi x18), (zi x19), (zi x20), (zl 6 x21), (zl 1 x22)])], n := 55 }) ⟨rfl, (by first | (cbv; done) | ((repeat (cbv; simp only [c32])); try cbv))⟩ ?_
    rintro ⟨v102, v103⟩ eK195 hsK195
    dsimp only [C85cL0] at hsK195
    refine zs ?_
    refine zg hT hA {} (by cbv) (lb rfl) ?_
    refine nT (zs ?_)
    rcases tf (A.zlt v102 (A.len r28)) with c104 | c104
    ·replace hsK195 := cT c104 hsK195
     refine zt rfl (by first | rfl | simp only [c104, zqa, zqb, zqc, zqd]) ?_
     refine zk ?_
     refine nT (zs (zb (zs ?_)))
     obtain ⟨a105, e106, hsK195⟩ := bindS hsK195
     obtain ⟨f107, f108⟩ := gtI e106
     refine zg hT hA {} (by (repeat (cbv; simp only [c104, f107, f108])); try cbv) (lb rfl) ?_
     refine nT (zs (zn ?_))
     obtain ⟨⟨r110, r111, r112, r113, r114, r115, r116, r117, r118, r119, r120, r121, r122, r123, r124, r125, r126, r127, r128, r129, r130, r131⟩, e109, hsK195⟩ := bindS hsK195
     refine AOps.cc hT hA { tk := [35], esc := [14] } (by (repeat (cbv; simp only [c104])); try cbv) (lb rfl) (ACall.shift (C124w hA e109) rfl rfl [(.cells [(zi v103)]), (.cells [(zl 1 x1), (zl 1 x2), (zi x3), (zi x4), (zi x5), (zi x6), (zi x7), (zi x8), (zi x9), (zi x10), (zi x11), (zi x12), (zi x13), (zi x14), (zi x15), (zi x16), (zi x17), (zi x18), (zi x19), (zi x20), (zl 6 x21), (zl 1 x22)])] rfl rfl rfl rfl) rfl (.inl rfl) rfl rfl rfl (lb rfl) rfl rfl ?_
     refine AOps.cd hT hA { tk := [35], esc := [14] } (by (repeat (cbv; simp only [c104])); try cbv) (lb rfl) ?_
     refine nT (zs (zn ?_))
     obtain ⟨⟨r133, r134, r135, r136, r137, r138, r139, r140, r141, r142, r143, r144, r145, r146, r147, r148, r149, r150, r151, r152, r153, r154⟩, e132, hsK195⟩ := bindS hsK195
     refine AOps.cc hT hA {} (by (repeat (cbv; simp only [c104])); try cbv) (lb rfl) (ACall.emb (C71w hA e132) [some 8, some 2, some 3, some 4, some 5, some 6, some 7] [(.cells [(zi v103)]), (.cells [(zl 1 x1), (zl 1 x2), (zi x3), (zi x4), (zi x5), (zi x6), (zi x7), (zi x8), (zi x9), (zi x10), (zi x11), (zi x12), (zi x13), (zi x14), (zi x15), (zi x16), (zi x17), (zi x18), (zi x19), (zi x20), (zl 6 x21), (zl 1 x22)]), (.gro 6 r130), .dead, .dead, (.gro 1 r131), .dead, .dead, (.cells [(zl 1 r110), (zl 1 r111), (zi r112), (zi r113), (zi r114), (zi r115), (zi r116), (zi r117), (zi r118), (zi r119), (zi r120), (zi r121), (zi r122), (zi r123), (zi r124), (zi r125), (zi r126), (zi r127), (zi r128), (zi r129), (.gref 2 6), (.gref 5 1)])] rfl rfl rfl rfl rfl rfl rfl) rfl (.inl rfl) rfl rfl rfl (lb rfl) rfl rfl ?_
     refine AOps.cd hT hA {} (by (repeat (cbv; simp only [c104])); try cbv) (lb rfl) ?_
     refine nT (zs ?_)
     refine AWp.weak (Wk.freezeG 8 20 rfl rfl rfl) ?_
     refine AWp.weak (Wk.freezeG 8 21 rfl rfl rfl) ?_
     refine AWp.regionDraw rfl (lb rfl) ?_
     obtain ⟨l155, e156, hsK195⟩ := bindS hsK195
     obtain ⟨f157, f158, f159, f160⟩ := slI e156
     obtain ⟨_, e161, hsK195⟩ := bindS hsK195
     have f162 := ckI e161
     obtain ⟨l163, e164, hsK195⟩ := bindS hsK195
     obtain ⟨f165, f166⟩ := apI e164
     obtain ⟨⟨r168, r169⟩, e167, hsK195⟩ := bindS hsK195
     refine DOps.cl hT hA {} rfl (by (repeat (cbv; simp only [c104, f157, f158, f159, f160, f162, f165, f166])); try cbv) (ih152 e167) rfl rfl rfl rfl rfl (lb rfl) rfl rfl ?_
     refine DOps.cd hT hA {} rfl (by (repeat (cbv; simp only [c104, f157, f158, f159, f160, f162, f165, f166])); try cbv) (by kernel_rfl) ?_
     refine nT ?_
     rcases tf r168 with c170 | c170
     ·replace hsK195 := cT c170 hsK195
      refine zf rfl (by first | rfl | simp only [c104, c170, zqa, zqb, zqc, zqd]) ?_
      refine zk ?_
      refine nB ?_
      refine nT ?_
      refine zg hT hA {} (by (repeat (cbv; simp only [c104, c170])); try cbv) (lb rfl) ?_
      exact nT ⟨_, (soI hsK195).symm, rfl, (by first | (cbv; done) | ((repeat (cbv; simp only [c104, c170])); try cbv))⟩
     ·replace hsK195 := cF c170 hsK195
      refine zt rfl (by first | rfl | simp only [c104, c170, zqa, zqb, zqc, zqd]) ?_
      refine zs ?_
      refine zg hT hA {} (by (repeat (cbv; simp only [c104, c170])); try cbv) (lb rfl) ?_
      refine nT ?_
      refine zr ?_
      refine rB ?_
      refine rT ?_
      refine rT ?_
      refine exL hsK195 fun hx => ?_
      subst hx
      refine oxR ?_
      replace hkK195 := (eR (hK195 _ hkK195))
      refine rB ?_
      refine rT ?_
      cases soI hkK195
      exact ⟨rfl, rfl, rfl, lb rfl, _, rfl⟩
    ·replace hsK195 := cF c104 hsK195
     refine zf rfl (by first | rfl | simp only [c104, zqa, zqb, zqc, zqd]) ?_
     refine AWp.exit ?_
     refine xT ?_
     refine xT ?_
     refine exL hsK195 fun hx => ?_
     subst hx
     exact oxI ⟨rfl, _, hkK195, (by first | (cbv; done) | ((repeat (cbv; simp only [c104])); try cbv))⟩
   ·rintro _ ⟨v171, hkK195, rfl⟩
    have h := (eL (hK195 _ hkK195))
    refine xB ?_
    refine nT (zs ?_)
    refine zg hT hA {} (by cbv) (lb rfl) ?_
    refine nT ?_
    refine zr ?_
    cases soI h
    exact ⟨rfl, rfl, rfl, lb rfl, _, rfl⟩

theorem C85cRw {A : Ar} (hA : A = Ar.std) : ∀ (n : Nat) {x1 x2 : List D} {x3 x4 x5 x6 x7 x8 x9 x10 x11 x12 x13 x14 x15 x16 x17 x18 x19 x20 : Int} {x21 x22 : List D} {x23 : Int} {x24 x25 : List D} {x26 : Int} {v196 : Bool} {v197 : Int}, C85cR A n x1 x2 x3 x4 x5 x6 x7 x8 x9 x10 x11 x12 x13 x14 x15 x16 x17 x18 x19 x20 x21 x22 x23 x24 x25 x26 = some (v196, v197) → ACall Try.prog 85 [(.d (.agg [(.list 1 x1), (.list 1 x2), (.int .i64 x3), (.int .i64 x4), (.int .i64 x5), (.int .i64 x6), (.int .i64 x7), (.int .i64 x8), (.int .i64 x9), (.int .i64 x10), (.int .i64 x11), (.int .i64 x12), (.int .i64 x13), (.int .i64 x14), (.int .i64 x15), (.int .i64 x16), (.int .i64 x17), (.int .i64 x18), (.int .i64 x19), (.int .i64 x20), (.list 6 x21), (.list 1 x22)])), (zi x23), (zl 1 x24), (zl 1 x25), (.func 90 [] [(.ptr 0 0)])] [(.cells [(zi x26)])] (.d (.bool v196)) [(.cells [(zi v197)])]
 | 0, _, _, _, _, _, _, _, _, _, _, _, _, _, _, _, _, _, _, _, _, _, _, _, _, _, _, _, _, h => by cases h
 | n + 1, _, _, _, _, _, _, _, _, _, _, _, _, _, _, _, _, _, _, _, _, _, _, _, _, _, _, _, _, h => C85cBw hA (fun h => C85cRw hA n h) h

theorem C85cw {A : Ar} (hA : A = Ar.std) {x1 x2 : List D} {x3 x4 x5 x6 x7 x8 x9 x10 x11 x12 x13 x14 x15 x16 x17 x18 x19 x20 : Int} {x21 x22 : List D} {x23 : Int} {x24 x25 : List D} {x26 : Int} {v196 : Bool} {v197 : Int} (h : C85c A x1 x2 x3 x4 x5 x6 x7 x8 x9 x10 x11 x12 x13 x14 x15 x16 x17 x18 x19 x20 x21 x22 x23 x24 x25 x26 = some (v196, v197)) : ACall Try.prog 85 [(.d (.agg [(.list 1 x1), (.list 1 x2), (.int .i64 x3), (.int .i64 x4), (.int .i64 x5), (.int .i64 x6), (.int .i64 x7), (.int .i64 x8), (.int .i64 x9), (.int .i64 x10), (.int .i64 x11), (.int .i64 x12), (.int .i64 x13), (.int .i64 x14), (.int .i64 x15), (.int .i64 x16), (.int .i64 x17), (.int .i64 x18), (.int .i64 x19), (.int .i64 x20), (.list 6 x21), (.list 1 x22)])), (zi x23), (zl 1 x24), (zl 1 x25), (.func 90 [] [(.ptr 0 0)])] [(.cells [(zi x26)])] (.d (.bool v196)) [(.cells [(zi v197)])] := C85cRw hA fuel h

theorem C85bw {A : Ar} (hA : A = Ar.std) {x1 x2 : List D} {x3 x4 x5 x6 x7 x8 x9 x10 x11 x12 x13 x14 x15 x16 x17 x18 x19 x20 x21 : Int} {x22 x23 : List D} {x24 : Int} {x25 x26 : List D} {v196 : Bool} {v197 : Int} (h : C85b A x1 x2 x3 x4 x5 x6 x7 x8 x9 x10 x11 x12 x13 x14 x15 x16 x17 x18 x19 x20 x21 x22 x23 x24 x25 x26 = some (v196, v197)) : ACall Try.prog 85 [(.agg [(zl 1 x1), (zl 1 x2), (zi x3), (zi x4), (zi x5), (zi x6), (zi x7), (zi x8), (zi x9), (zi x10), (zi x11), (zi x12), (zi x13), (zi x14), (zi x15), (zi x16), (zi x17), (zi x18), (zi x19), (zi x20), (.gref 1 6), (.gref 4 1)]), (zi x21), (zl 1 x22), (zl 1 x23), (.func 90 [] [(.ptr 0 0)])] [(.cells [(zi x24)]), (.gro 6 x25), .dead, .dead, (.gro 1 x26), .dead, .dead] (.d (.bool v196)) [(.cells [(zi v197)]), .dead, .dead, .dead, .dead, .dead, .dead] := by
 unfold C85b at h
 refine ACall.enter hT (fn := Try.f85) Try.func85 rfl (by decide) (by simp [Try.f85]) rfl rfl rfl rfl (lb rfl) ?_
 refine zs ?_
 refine zg hT hA { esc := [5] } (by cbv) (lb rfl) ?_
 refine nT ?_
 refine AWp.weak (Wk.freezeG 7 20 rfl rfl rfl) ?_
 refine AWp.weak (Wk.freezeG 7 21 rfl rfl rfl) ?_
 refine zs (zn ?_)
 obtain ⟨r28, e27, h⟩ := bindS h
 refine AOps.cc hT hA {} (by cbv) (lb rfl) (ACall.emb (C56aw hA e27) [some 7] [(.cells [(zi x24)]), .dead, .dead, .dead, .dead, .dead, .dead, (.cells [(zl 1 x1), (zl 1 x2), (zi x3), (zi x4), (zi x5), (zi x6), (zi x7), (zi x8), (zi x9), (zi x10), (zi x11), (zi x12), (zi x13), (zi x14), (zi x15), (zi x16), (zi x17), (zi x18), (zi x19), (zi x20), (zl 6 x25), (zl 1 x26)])] rfl rfl rfl rfl rfl rfl rfl) rfl (.inl rfl) rfl rfl rfl (lb rfl) rfl rfl ?_
 refine AOps.cd hT hA {} (by cbv) (lb rfl) ?_
 refine nT (zs (zs ?_))
 obtain ⟨v30, hvK31, h⟩ := bindS h
 refine AWp.cutN [1, 2, 3, 4, 5, 11, 24] [] 8 (lb rfl) (fun τ => τ = { env := [(1, (zi x21)), (2, (zl 1 x22)), (3, (zl 1 x23)), (4, (.func 90 [] [(.ptr 0 0)])), (5, (.ptr 7 0)), (11, (zl 1 r28)), (24, (.d (.bool v30)))], heap := [(.cells [(zi x24)]), .dead, .dead, .dead, .dead, .dead, .dead, (.cells [(zl 1 x1), (zl 1 x2), (zi x3), (zi x4), (zi x5), (zi x6), (zi x7), (zi x8), (zi x9), (zi x10), (zi x11), (zi x12), (zi x13), (zi x14), (zi x15), (zi x16), (zi x17), (zi x18), (zi x19), (zi x20), (zl 6 x25), (zl 1 x26)])], n := 55 }) ?_ ?_
 ·skip
  rcases tf (A.zeq (A.len r28) 0) with c29 | c29
  ·replace hvK31 := cT c29 hvK31
   refine zg hT hA {} (by (repeat (cbv; simp only [c29])); try cbv) (lb rfl) ?_
   cases soI hvK31
   exact oNi ⟨rfl, (by first | (cbv; done) | ((repeat (cbv; simp only [c29])); try cbv))⟩
  ·replace hvK31 := cF c29 hvK31
   refine zg hT hA {} (by (repeat (cbv; simp only [c29])); try cbv) (lb rfl) ?_
   cases soI hvK31
   exact oNi ⟨rfl, (by first | (cbv; done) | ((repeat (cbv; simp only [c29])); try cbv))⟩
 ·rintro _ rfl
  refine nT ?_
  rcases tf v30 with c32 | c32
  ·replace h := cT c32 h
   refine zt rfl (by first | rfl | simp only [c32, zqa, zqb, zqc, zqd]) ?_
   refine zs ?_
   refine AWp.weak (Wk.freezeObj 7 [5] (ds := [(.list 1 x1), (.list 1 x2), (.int .i64 x3), (.int .i64 x4), (.int .i64 x5), (.int .i64 x6), (.int .i64 x7), (.int .i64 x8), (.int .i64 x9), (.int .i64 x10), (.int .i64 x11), (.int .i64 x12), (.int .i64 x13), (.int .i64 x14), (.int .i64 x15), (.int .i64 x16), (.int .i64 x17), (.int .i64 x18), (.int .i64 x19), (.int .i64 x20), (.list 6 x25), (.list 1 x26)]) rfl rfl) ?_
   refine zn ?_
   obtain ⟨r34, e33, h⟩ := bindS h
   refine AOps.cc hT hA { tk := [27] } (by (repeat (cbv; simp only [c32])); try cbv) (lb rfl) (C90w hA e33) rfl (.inr rfl) rfl rfl rfl (lb rfl) rfl rfl ?_
   refine AOps.cd hT hA { tk := [27] } (by (repeat (cbv; simp only [c32])); try cbv) (lb rfl) ?_
   refine nT ?_
   refine zr ?_
   refine rT ?_
   cases soI h
   exact ⟨rfl, rfl, rfl, lb rfl, _, rfl⟩
  ·replace h := cF c32 h
   refine zf rfl (by first | rfl | simp only [c32, zqa, zqb, zqc, zqd]) ?_
   refine zk ?_
   refine nT (zs (zs ?_))
   refine zg hT hA {} (by (repeat (cbv; simp only [c32])); try cbv) (lb rfl) ?_
   refine nT (zb ?_)
   obtain ⟨xK195, hxK195, K195, hK195, hkK195⟩ := bindK h
   refine AWp.cutX 0 [] [] 8 (lb rfl) (fun τ => ∃ v171, K195 (.inl v171) = some (v196, v197) ∧ τ = { env := [], heap := [(.cells [(zi v171)]), .dead, .dead, .dead, .dead, .dead, .dead, (.cells [(zl 1 x1), (zl 1 x2), (zi x3), (zi x4), (zi x5), (zi x6), (zi x7), (zi x8), (zi x9), (zi x10), (zi x11), (zi x12), (zi x13), (zi x14), (zi x15), (zi x16), (zi x17), (zi x18), (zi x19), (zi x20), (zl 6 x25), (zl 1 x26)])], n := 55 }) ?_ ?_
   ·skip
    refine AWp.iter hxK195 [1, 2, 3, 4, 5, 28, 29, 30] [] 8 (lb rfl) (fun (v102, v103) => { env := [(1, (zi x21)), (2, (zl 1 x22)), (3, (zl 1 x23)), (4, (.func 90 [] [(.ptr 0 0)])), (5, (.ptr 7 0)), (28, (zl 1 r28)), (29, (.d (.int .i64 (A.len r28)))), (30, (zi v102))], heap := [(.cells [(zi v103)]), .dead, .dead, .dead, .dead, .dead, .dead, (.cells [(zl 1 x1), (zl 1 x2), (zi x3), (zi x4), (zi x5), (zi x6), (zi x7), (zi x8), (zi x9), (zi x10), (zi x11), (zi x12), (zi x13), (zi x14), (zi x15), (zi x16), (zi x17), (zi x18), (zi x19), (zi x20), (zl 6 x25), (zl 1 x26)])], n := 55 }) ⟨rfl, (by first | (cbv; done) | ((repeat (cbv; simp only [c32])); try cbv))⟩ ?_
    rintro ⟨v102, v103⟩ eK195 hsK195
    dsimp only [C85bL0] at hsK195
    refine zs ?_
    refine zg hT hA {} (by cbv) (lb rfl) ?_
    refine nT (zs ?_)
    rcases tf (A.zlt v102 (A.len r28)) with c104 | c104
    ·replace hsK195 := cT c104 hsK195
     refine zt rfl (by first | rfl | simp only [c104, zqa, zqb, zqc, zqd]) ?_
     refine zk ?_
     refine nT (zs (zb (zs ?_)))
     obtain ⟨a105, e106, hsK195⟩ := bindS hsK195
     obtain ⟨f107, f108⟩ := gtI e106
     refine zg hT hA {} (by (repeat (cbv; simp only [c104, f107, f108])); try cbv) (lb rfl) ?_
     refine nT (zs (zn ?_))
     obtain ⟨⟨r110, r111, r112, r113, r114, r115, r116, r117, r118, r119, r120, r121, r122, r123, r124, r125, r126, r127, r128, r129, r130, r131⟩, e109, hsK195⟩ := bindS hsK195
     refine AOps.cc hT hA { tk := [35], esc := [14] } (by (repeat (cbv; simp only [c104])); try cbv) (lb rfl) (ACall.shift (C124w hA e109) rfl rfl [(.cells [(zi v103)]), .dead, .dead, .dead, .dead, .dead, .dead, (.cells [(zl 1 x1), (zl 1 x2), (zi x3), (zi x4), (zi x5), (zi x6), (zi x7), (zi x8), (zi x9), (zi x10), (zi x11), (zi x12), (zi x13), (zi x14), (zi x15), (zi x16), (zi x17), (zi x18), (zi x19), (zi x20), (zl 6 x25), (zl 1 x26)])] rfl rfl rfl rfl) rfl (.inl rfl) rfl rfl rfl (lb rfl) rfl rfl ?_
     refine AOps.cd hT hA { tk := [35], esc := [14] } (by (repeat (cbv; simp only [c104])); try cbv) (lb rfl) ?_
     refine nT (zs (zn ?_))
     obtain ⟨⟨r133, r134, r135, r136, r137, r138, r139, r140, r141, r142, r143, r144, r145, r146, r147, r148, r149, r150, r151, r152, r153, r154⟩, e132, hsK195⟩ := bindS hsK195
     refine AOps.cc hT hA {} (by (repeat (cbv; simp only [c104])); try cbv) (lb rfl) (ACall.emb (C71w hA e132) [some 14, some 8, some 9, some 10, some 11, some 12, some 13] [(.cells [(zi v103)]), .dead, .dead, .dead, .dead, .dead, .dead, (.cells [(zl 1 x1), (zl 1 x2), (zi x3), (zi x4), (zi x5), (zi x6), (zi x7), (zi x8), (zi x9), (zi x10), (zi x11), (zi x12), (zi x13), (zi x14), (zi x15), (zi x16), (zi x17), (zi x18), (zi x19), (zi x20), (zl 6 x25), (zl 1 x26)]), (.gro 6 r130), .dead, .dead, (.gro 1 r131), .dead, .dead, (.cells [(zl 1 r110), (zl 1 r111), (zi r112), (zi r113), (zi r114), (zi r115), (zi r116), (zi r117), (zi r118), (zi r119), (zi r120), (zi r121), (zi r122), (zi r123), (zi r124), (zi r125), (zi r126), (zi r127), (zi r128), (zi r129), (.gref 8 6), (.gref 11 1)])] rfl rfl rfl rfl rfl rfl rfl) rfl (.inl rfl) rfl rfl rfl (lb rfl) rfl rfl ?_
     refine AOps.cd hT hA {} (by (repeat (cbv; simp only [c104])); try cbv) (lb rfl) ?_
     refine nT (zs ?_)
     refine AWp.weak (Wk.freezeG 14 20 rfl rfl rfl) ?_
     refine AWp.weak (Wk.freezeG 14 21 rfl rfl rfl) ?_
     refine AWp.regionDraw rfl (lb rfl) ?_
     obtain ⟨l155, e156, hsK195⟩ := bindS hsK195
     obtain ⟨f157, f158, f159, f160⟩ := slI e156
     obtain ⟨_, e161, hsK195⟩ := bindS hsK195
     have f162 := ckI e161
     obtain ⟨l163, e164, hsK195⟩ := bindS hsK195
     obtain ⟨f165, f166⟩ := apI e164
     obtain ⟨⟨r168, r169⟩, e167, hsK195⟩ := bindS hsK195
     refine DOps.cl hT hA {} rfl (by (repeat (cbv; simp only [c104, f157, f158, f159, f160, f162, f165, f166])); try cbv) (C85cw hA e167) rfl rfl rfl rfl rfl (lb rfl) rfl rfl ?_
     refine DOps.cd hT hA {} rfl (by (repeat (cbv; simp only [c104, f157, f158, f159, f160, f162, f165, f166])); try cbv) (by kernel_rfl) ?_
     refine nT ?_
     rcases tf r168 with c170 | c170
     ·replace hsK195 := cT c170 hsK195
      refine zf rfl (by first | rfl | simp only [c104, c170, zqa, zqb, zqc, zqd]) ?_
      refine zk ?_
      refine nB ?_
      refine nT ?_
      refine zg hT hA {} (by (repeat (cbv; simp only [c104, c170])); try cbv) (lb rfl) ?_
      exact nT ⟨_, (soI hsK195).symm, rfl, (by first | (cbv; done) | ((repeat (cbv; simp only [c104, c170])); try cbv))⟩
     ·replace hsK195 := cF c170 hsK195
      refine zt rfl (by first | rfl | simp only [c104, c170, zqa, zqb, zqc, zqd]) ?_
      refine zs ?_
      refine zg hT hA {} (by (repeat (cbv; simp only [c104, c170])); try cbv) (lb rfl) ?_
      refine nT ?_
      refine zr ?_
      refine rB ?_
      refine rT ?_
      refine rT ?_
      refine exL hsK195 fun hx => ?_
      subst hx
      refine oxR ?_
      replace hkK195 := (eR (hK195 _ hkK195))
      refine rB ?_
      refine rT ?_
      cases soI hkK195
      exact ⟨rfl, rfl, rfl, lb rfl, _, rfl⟩
    ·replace hsK195 := cF c104 hsK195
     refine zf rfl (by first | rfl | simp only [c104, zqa, zqb, zqc, zqd]) ?_
     refine AWp.exit ?_
     refine xT ?_
     refine xT ?_
     refine exL hsK195 fun hx => ?_
     subst hx
     exact oxI ⟨rfl, _, hkK195, (by first | (cbv; done) | ((repeat (cbv; simp only [c104])); try cbv))⟩
   ·rintro _ ⟨v171, hkK195, rfl⟩
    have h := (eL (hK195 _ hkK195))
    refine xB ?_
    refine nT (zs ?_)
    refine zg hT hA {} (by cbv) (lb rfl) ?_
    refine nT ?_
    refine zr ?_
    cases soI h
    exact ⟨rfl, rfl, rfl, lb rfl, _, rfl⟩

theorem C36w {A : Ar} (hA : A = Ar.std) {x1 x2 : List D} {x3 v16 v17 : Int} (h : C36 A x1 x2 x3 = some (v16, v17)) : ACall Try.prog 36 [(zl 1 x1), (zl 1 x2), (zi x3)] [] (.tuple [(zi v16), (zi v17)]) [] := by
 unfold C36 at h
 refine ACall.enter hT (fn := Try.f36) Try.func36 rfl (by decide) (by simp [Try.f36]) rfl rfl rfl rfl (lb rfl) ?_
 refine zs ?_
 refine zg hT hA {} (by cbv) (lb rfl) ?_
 refine nT (zs (zs (zn ?_)))
 obtain ⟨r5, e4, h⟩ := bindS h
 refine AOps.cc hT hA {} (by cbv) (lb rfl) (C89w hA e4) rfl (.inl rfl) rfl rfl rfl (lb rfl) rfl rfl ?_
 refine AOps.cd hT hA {} (by cbv) (lb rfl) ?_
 refine nT (zb (zs ?_))
 refine zg hT hA {} (by cbv) (lb rfl) ?_
 refine nT ?_
 rcases tf (A.zeq r5 0) with c6 | c6
 ·replace h := cT c6 h
  refine zf rfl (by first | rfl | simp only [c6, zqa, zqb, zqc, zqd]) ?_
  refine zs (zn ?_)
  obtain ⟨r8, e7, h⟩ := bindS h
  refine AOps.cc hT hA {} (by (repeat (cbv; simp only [c6])); try cbv) (lb rfl) (C84w hA e7) rfl (.inl rfl) rfl rfl rfl (lb rfl) rfl rfl ?_
  refine AOps.cd hT hA {} (by (repeat (cbv; simp only [c6])); try cbv) (lb rfl) ?_
  refine nT ?_
  rcases tf r8 with c9 | c9
  ·replace h := cT c9 h
   refine zf rfl (by first | rfl | simp only [c6, c9, zqa, zqb, zqc, zqd]) ?_
   refine zk ?_
   refine nB ?_
   refine nT (zs ?_)
   refine zg hT hA { esc := [9] } (by (repeat (cbv; simp only [c6, c9])); try cbv) (lb rfl) ?_
   refine nT (zs (zn ?_))
   obtain ⟨⟨r11, r12⟩, e10, h⟩ := bindS h
   refine AOps.cc hT hA {} (by (repeat (cbv; simp only [c6, c9])); try cbv) (lb rfl) (ACall.shift (C69w hA e10) rfl rfl [(.cells [(zi 0)])] rfl rfl rfl rfl) rfl (.inl rfl) rfl rfl rfl (lb rfl) rfl rfl ?_
   obtain ⟨⟨r14, r15⟩, e13, h⟩ := bindS h
   refine AOps.cc hT hA {} (by (repeat (cbv; simp only [c6, c9])); try cbv) (lb rfl) (C85bw hA e13) rfl (.inl rfl) rfl rfl rfl (lb rfl) rfl rfl ?_
   refine AOps.cd hT hA {} (by (repeat (cbv; simp only [c6, c9])); try cbv) (lb rfl) ?_
   refine nT (zs ?_)
   refine zg hT hA {} (by (repeat (cbv; simp only [c6, c9])); try cbv) (lb rfl) ?_
   refine nT ?_
   refine zr ?_
   cases soI h
   exact ⟨rfl, rfl, rfl, lb rfl, _, rfl⟩
  ·replace h := cF c9 h
   refine zt rfl (by first | rfl | simp only [c6, c9, zqa, zqb, zqc, zqd]) ?_
   refine zs ?_
   refine zg hT hA {} (by (repeat (cbv; simp only [c6, c9])); try cbv) (lb rfl) ?_
   refine nT ?_
   refine zr ?_
   refine rB ?_
   refine rT ?_
   cases soI h
   exact ⟨rfl, rfl, rfl, lb rfl, _, rfl⟩
 ·replace h := cF c6 h
  refine zt rfl (by first | rfl | simp only [c6, zqa, zqb, zqc, zqd]) ?_
  refine zs ?_
  refine zg hT hA {} (by (repeat (cbv; simp only [c6])); try cbv) (lb rfl) ?_
  refine nT ?_
  refine zr ?_
  refine rB ?_
  refine rT ?_
  cases soI h
  exact ⟨rfl, rfl, rfl, lb rfl, _, rfl⟩

theorem C8w {A : Ar} (hA : A = Ar.std) {x1 x2 : Int} {x3 x4 x5 x6 : List D} {x7 x8 x9 : Int} {v65 : Bool} (h : C8 A x1 x2 x3 x4 x5 x6 x7 x8 x9 = some v65) : ACall Try.prog 8 [(.d (.agg [(.int .i64 x1), (.int .i64 x2), (.list 1 x3), (.list 1 x4), (.list 1 x5), (.list 1 x6)])), (.d (.agg [(.int .u8 x7), (.int .u8 x8)])), (.d (.int .u8 x9))] [] (.d (.bool v65)) [] := by
 unfold C8 at h
 refine ACall.enter hT (fn := Try.f8) Try.func8 rfl (by decide) (by simp [Try.f8]) rfl rfl rfl rfl (lb rfl) ?_
 refine zs ?_
 refine zg hT hA {} (by cbv) (lb rfl) ?_
 refine nT (zs (zs (zn ?_)))
 obtain ⟨r11, e10, h⟩ := bindS h
 refine AOps.cc hT hA {} (by cbv) (lb rfl) (C23w hA e10) rfl (.inl rfl) rfl rfl rfl (lb rfl) rfl rfl ?_
 refine AOps.cd hT hA {} (by cbv) (lb rfl) ?_
 refine nT ?_
 rcases tf r11 with c12 | c12
 ·replace h := cT c12 h
  refine zf rfl (by first | rfl | simp only [c12, zqa, zqb, zqc, zqd]) ?_
  refine zk ?_
  refine nT (zs ?_)
  obtain ⟨_, e15, h⟩ := bindS h
  have f16 := nkI e15
  refine zg hT hA {} (by (repeat (cbv; simp only [c12, f16])); try cbv) (lb rfl) ?_
  refine nT (zs (zn ?_))
  obtain ⟨_, e17, h⟩ := bindS h
  have f18 := nkI e17
  obtain ⟨_, e19, h⟩ := bindS h
  have f20 := nkI e19
  obtain ⟨⟨r22, r23⟩, e21, h⟩ := bindS h
  refine AOps.cc hT hA {} (by (repeat (cbv; simp only [c12, f18, f20])); try cbv) (lb rfl) (C29w hA e21) rfl (.inl rfl) rfl rfl rfl (lb rfl) rfl rfl ?_
  refine AOps.cd hT hA {} (by (repeat (cbv; simp only [c12, f18, f20])); try cbv) (lb rfl) ?_
  refine nT (zs (zn ?_))
  obtain ⟨_, e24, h⟩ := bindS h
  have f25 := nkI e24
  obtain ⟨_, e26, h⟩ := bindS h
  have f27 := nkI e26
  obtain ⟨⟨r29, r30⟩, e28, h⟩ := bindS h
  refine AOps.cc hT hA {} (by (repeat (cbv; simp only [c12, f25, f27])); try cbv) (lb rfl) (C29w hA e28) rfl (.inl rfl) rfl rfl rfl (lb rfl) rfl rfl ?_
  refine AOps.cd hT hA {} (by (repeat (cbv; simp only [c12, f25, f27])); try cbv) (lb rfl) ?_
  refine nT (zs (zn ?_))
  obtain ⟨⟨r32, r33⟩, e31, h⟩ := bindS h
  refine AOps.cc hT hA {} (by (repeat (cbv; simp only [c12])); try cbv) (lb rfl) (C38w hA e31) rfl (.inl rfl) rfl rfl rfl (lb rfl) rfl rfl ?_
  refine AOps.cd hT hA {} (by (repeat (cbv; simp only [c12])); try cbv) (lb rfl) ?_
  refine nT (zs (zn ?_))
  obtain ⟨⟨r35, r36⟩, e34, h⟩ := bindS h
  refine AOps.cc hT hA {} (by (repeat (cbv; simp only [c12])); try cbv) (lb rfl) (C38w hA e34) rfl (.inl rfl) rfl rfl rfl (lb rfl) rfl rfl ?_
  refine AOps.cd hT hA {} (by (repeat (cbv; simp only [c12])); try cbv) (lb rfl) ?_
  refine nT (zs (zs ?_))
  obtain ⟨v46, hvK47, h⟩ := bindS h
  refine AWp.cutN [3, 7, 12, 95] [] 0 (lb rfl) (fun τ => τ = { env := [(3, (.lbox [(zi x1), (zi x2), (zl 1 x3), (zl 1 x4), (zl 1 x5), (zl 1 x6)])), (7, (.d (.int .i64 (A.rem (A.wrp .i64 x9) 12)))), (12, (zl 1 r32)), (95, (.d (.bool v46)))], heap := [], n := 144 }) ?_ ?_
  ·skip
   refine zn ?_
   rcases tf (A.zeq r23 0) with c37 | c37
   ·replace hvK47 := cT c37 hvK47
    rcases tf (A.zeq r30 0) with c38 | c38
    ·replace hvK47 := cT c38 hvK47
     rcases tf (A.zeq r33 0) with c39 | c39
     ·replace hvK47 := cT c39 hvK47
      rcases tf (A.zeq r36 0) with c40 | c40
      ·replace hvK47 := cT c40 hvK47
       obtain ⟨r42, e41, hvK47⟩ := bindS hvK47
       refine AOps.cc hT hA {} (by (repeat (cbv; simp only [c12, c37, c38, c39, c40])); try cbv) (lb rfl) (C31w hA e41) rfl (.inl rfl) rfl rfl rfl (lb rfl) rfl rfl ?_
       rcases tf r42 with c43 | c43
       ·replace hvK47 := cT c43 hvK47
        obtain ⟨r45, e44, hvK47⟩ := bindS hvK47
        refine AOps.cc hT hA {} (by (repeat (cbv; simp only [c12, c37, c38, c39, c40, c43])); try cbv) (lb rfl) (C40w hA e44) rfl (.inl rfl) rfl rfl rfl (lb rfl) rfl rfl ?_
        refine AOps.cd hT hA {} (by (repeat (cbv; simp only [c12, c37, c38, c39, c40, c43])); try cbv) (lb rfl) ?_
        cases soI hvK47
        exact oNi ⟨rfl, (by first | (cbv; done) | ((repeat (cbv; simp only [c12, c37, c38, c39, c40, c43])); try cbv))⟩
       ·replace hvK47 := cF c43 hvK47
        refine AOps.cd hT hA {} (by (repeat (cbv; simp only [c12, c37, c38, c39, c40, c43])); try cbv) (lb rfl) ?_
        cases soI hvK47
        exact oNi ⟨rfl, (by first | (cbv; done) | ((repeat (cbv; simp only [c12, c37, c38, c39, c40, c43])); try cbv))⟩
      ·replace hvK47 := cF c40 hvK47
       refine AOps.cd hT hA {} (by (repeat (cbv; simp only [c12, c37, c38, c39, c40])); try cbv) (lb rfl) ?_
       cases soI hvK47
       exact oNi ⟨rfl, (by first | (cbv; done) | ((repeat (cbv; simp only [c12, c37, c38, c39, c40])); try cbv))⟩
     ·replace hvK47 := cF c39 hvK47
      refine AOps.cd hT hA {} (by (repeat (cbv; simp only [c12, c37, c38, c39])); try cbv) (lb rfl) ?_
      cases soI hvK47
      exact oNi ⟨rfl, (by first | (cbv; done) | ((repeat (cbv; simp only [c12, c37, c38, c39])); try cbv))⟩
    ·replace hvK47 := cF c38 hvK47
     refine AOps.cd hT hA {} (by (repeat (cbv; simp only [c12, c37, c38])); try cbv) (lb rfl) ?_
     cases soI hvK47
     exact oNi ⟨rfl, (by first | (cbv; done) | ((repeat (cbv; simp only [c12, c37, c38])); try cbv))⟩
   ·replace hvK47 := cF c37 hvK47
    refine AOps.cd hT hA {} (by (repeat (cbv; simp only [c12, c37])); try cbv) (lb rfl) ?_
    cases soI hvK47
    exact oNi ⟨rfl, (by first | (cbv; done) | ((repeat (cbv; simp only [c12, c37])); try cbv))⟩
  ·rintro _ rfl
   refine nT ?_
   rcases tf v46 with c48 | c48
   ·replace h := cT c48 h
    refine zt rfl (by first | rfl | simp only [c48, zqa, zqb, zqc, zqd]) ?_
    refine zs ?_
    refine zg hT hA {} (by (repeat (cbv; simp only [c48])); try cbv) (lb rfl) ?_
    refine nT ?_
    refine zr ?_
    refine rT ?_
    cases soI h
    exact ⟨rfl, rfl, rfl, lb rfl, _, rfl⟩
   ·replace h := cF c48 h
    refine zf rfl (by first | rfl | simp only [c48, zqa, zqb, zqc, zqd]) ?_
    refine zk ?_
    refine nT (zs (zn ?_))
    obtain ⟨⟨r50, r51⟩, e49, h⟩ := bindS h
    refine AOps.cc hT hA {} (by (repeat (cbv; simp only [c48])); try cbv) (lb rfl) (C36w hA e49) rfl (.inl rfl) rfl rfl rfl (lb rfl) rfl rfl ?_
    refine AOps.cd hT hA {} (by (repeat (cbv; simp only [c48])); try cbv) (lb rfl) ?_
    refine nT (zs (zn ?_))
    obtain ⟨⟨r53, r54⟩, e52, h⟩ := bindS h
    refine AOps.cc hT hA {} (by (repeat (cbv; simp only [c48])); try cbv) (lb rfl) (C36w hA e52) rfl (.inl rfl) rfl rfl rfl (lb rfl) rfl rfl ?_
    refine AOps.cd hT hA {} (by (repeat (cbv; simp only [c48])); try cbv) (lb rfl) ?_
    refine nT (zs ?_)
    obtain ⟨v63, hvK64, h⟩ := bindS h
    refine AWp.cutN [6] [] 0 (lb rfl) (fun τ => τ = { env := [(6, (.d (.bool v63)))], heap := [], n := 144 }) ?_ ?_
    ·skip
     refine zn ?_
     rcases tf (A.zeq r51 0) with c55 | c55
     ·replace hvK64 := cT c55 hvK64
      rcases tf (A.zeq r54 0) with c56 | c56
      ·replace hvK64 := cT c56 hvK64
       rcases tf (A.zle 1 r50) with c57 | c57
       ·replace hvK64 := cT c57 hvK64
        rcases tf (A.zle r50 r53) with c58 | c58
        ·replace hvK64 := cT c58 hvK64
         rcases tf (A.zle (A.len r32) r50) with c59 | c59
         ·replace hvK64 := cT c59 hvK64
          rcases tf (A.zle 1 (A.len r32)) with c60 | c60
          ·replace hvK64 := cT c60 hvK64
           obtain ⟨r62, e61, hvK64⟩ := bindS hvK64
           refine AOps.cc hT hA { tk := [143] } (by (repeat (cbv; simp only [c48, c55, c56, c57, c58, c59, c60])); try cbv) (lb rfl) (C10w hA e61) rfl (.inl rfl) rfl rfl rfl (lb rfl) rfl rfl ?_
           refine AOps.cd hT hA { tk := [143] } (by (repeat (cbv; simp only [c48, c55, c56, c57, c58, c59, c60])); try cbv) (lb rfl) ?_
           cases soI hvK64
           exact oNi ⟨rfl, (by first | (cbv; done) | ((repeat (cbv; simp only [c48, c55, c56, c57, c58, c59, c60])); try cbv))⟩
          ·replace hvK64 := cF c60 hvK64
           refine AOps.cd hT hA { tk := [143] } (by (repeat (cbv; simp only [c48, c55, c56, c57, c58, c59, c60])); try cbv) (lb rfl) ?_
           cases soI hvK64
           exact oNi ⟨rfl, (by first | (cbv; done) | ((repeat (cbv; simp only [c48, c55, c56, c57, c58, c59, c60])); try cbv))⟩
         ·replace hvK64 := cF c59 hvK64
          refine AOps.cd hT hA { tk := [143] } (by (repeat (cbv; simp only [c48, c55, c56, c57, c58, c59])); try cbv) (lb rfl) ?_
          cases soI hvK64
          exact oNi ⟨rfl, (by first | (cbv; done) | ((repeat (cbv; simp only [c48, c55, c56, c57, c58, c59])); try cbv))⟩
        ·replace hvK64 := cF c58 hvK64
         refine AOps.cd hT hA { tk := [143] } (by (repeat (cbv; simp only [c48, c55, c56, c57, c58])); try cbv) (lb rfl) ?_
         cases soI hvK64
         exact oNi ⟨rfl, (by first | (cbv; done) | ((repeat (cbv; simp only [c48, c55, c56, c57, c58])); try cbv))⟩
       ·replace hvK64 := cF c57 hvK64
        refine AOps.cd hT hA { tk := [143] } (by (repeat (cbv; simp only [c48, c55, c56, c57])); try cbv) (lb rfl) ?_
        cases soI hvK64
        exact oNi ⟨rfl, (by first | (cbv; done) | ((repeat (cbv; simp only [c48, c55, c56, c57])); try cbv))⟩
      ·replace hvK64 := cF c56 hvK64
       refine AOps.cd hT hA { tk := [143] } (by (repeat (cbv; simp only [c48, c55, c56])); try cbv) (lb rfl) ?_
       cases soI hvK64
       exact oNi ⟨rfl, (by first | (cbv; done) | ((repeat (cbv; simp only [c48, c55, c56])); try cbv))⟩
     ·replace hvK64 := cF c55 hvK64
      refine AOps.cd hT hA { tk := [143] } (by (repeat (cbv; simp only [c48, c55])); try cbv) (lb rfl) ?_
      cases soI hvK64
      exact oNi ⟨rfl, (by first | (cbv; done) | ((repeat (cbv; simp only [c48, c55])); try cbv))⟩
    ·rintro _ rfl
     refine nT ?_
     refine zr ?_
     cases soI h
     exact ⟨rfl, rfl, rfl, lb rfl, _, rfl⟩
 ·replace h := cF c12 h
  refine zt rfl (by first | rfl | simp only [c12, zqa, zqb, zqc, zqd]) ?_
  refine zs (zn ?_)
  obtain ⟨r14, e13, h⟩ := bindS h
  refine AOps.cc hT hA { tk := [21] } (by (repeat (cbv; simp only [c12])); try cbv) (lb rfl) (C10w hA e13) rfl (.inl rfl) rfl rfl rfl (lb rfl) rfl rfl ?_
  refine AOps.cd hT hA { tk := [21] } (by (repeat (cbv; simp only [c12])); try cbv) (lb rfl) ?_
  refine nT ?_
  refine zr ?_
  refine rT ?_
  cases soI h
  exact ⟨rfl, rfl, rfl, lb rfl, _, rfl⟩
end Go.Am
