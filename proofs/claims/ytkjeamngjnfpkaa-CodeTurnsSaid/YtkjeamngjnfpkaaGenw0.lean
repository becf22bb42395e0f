/- Own text: Genw0. -/
import Derived.Test.YtkjeamngjnfpkaaGenp0
import Derived.Test.YtkjeamngjnfpkaaAmRoll
import Derived.Test.YtkjeamngjnfpkaaAmRoll
import Derived.Test.YtkjeamngjnfpkaaAmEmb
import Derived.Test.YtkjeamngjnfpkaaAmEmb
import Derived.Test.YtkjeamngjnfpkaaC1T
import Derived.Test.YtkjeamngjnfpkaaAmRoll
import Derived.Test.YtkjeamngjnfpkaaAmRoll
import Derived.Test.YtkjeamngjnfpkaaAmEmb
import Derived.Test.YtkjeamngjnfpkaaAmSortO
import Derived.Test.YtkjeamngjnfpkaaC1S
set_option maxRecDepth 100000
set_option maxHeartbeats 2000000
set_option linter.unusedVariables false
set_option linter.unusedSimpArgs false
namespace Go.Am
open Go Go.Proofs
theorem zqa : (!true) = false := rfl
theorem zqb : (!false) = true := rfl
theorem zqc {α : Type} {a b : α} : cond true a b = a := rfl
theorem zqd {α : Type} {a b : α} : cond false a b = b := rfl
abbrev zs := @AWp.seq
abbrev zg := @AWp.rg
abbrev zr := @AWp.ret
abbrev zt := @AWp.cdT
abbrev zf := @AWp.cdF
abbrev zn := @AWp.region
abbrev zk := @AWp.skip
abbrev zb := @AWp.block
abbrev zi (x : Int) : AV := .d (.int .i64 x)
abbrev zl (k : Nat) (x : List D) : AV := .d (.list k x)
theorem C41w {A : Ar} (hA : A = Ar.std) {x1 : List D} {v84 : Bool} (h : C41 A x1 = some v84) : ACall Try.prog 41 [(zl 4 x1)] [] (.d (.bool v84)) [] := by
 unfold C41 at h
 refine ACall.enter hT (fn := Try.f41) Try.func41 rfl (by decide) (by simp [Try.f41]) rfl rfl rfl rfl (lb rfl) ?_
 refine zs ?_
 refine zg hT hA {} (by cbv) (lb rfl) ?_
 refine nT (zs (zs ?_))
 refine zg hT hA {} (by cbv) (lb rfl) ?_
 refine nT (zb ?_)
 obtain ⟨xK83, hxK83, K83, hK83, hkK83⟩ := bindK h
 refine AWp.cutX 0 [0] [] 0 (lb rfl) (fun τ => K83 (.inl ()) = some v84 ∧ τ = { env := [(0, (zl 4 x1))], heap := [], n := 58 }) ?_ ?_
 ·skip
  refine AWp.iter hxK83 [0, 3] [] 0 (lb rfl) (fun v42 => { env := [(0, (zl 4 x1)), (3, (zi v42))], heap := [], n := 58 }) ⟨rfl, (by cbv)⟩ ?_
  rintro v42 eK83 hsK83
  dsimp only [C41L2] at hsK83
  refine zs (zs ?_)
  refine zg hT hA {} (by cbv) (lb rfl) ?_
  refine nT ?_
  rcases tf (A.zlt v42 (A.len x1)) with c43 | c43
  ·replace hsK83 := cT c43 hsK83
   refine zt rfl (by first | rfl | simp only [c43, zqa, zqb, zqc, zqd]) ?_
   refine zk ?_
   refine nT (zs (zb (zs ?_)))
   obtain ⟨⟨a44, a45, a46, a47⟩, e48, hsK83⟩ := bindS hsK83
   obtain ⟨f49, f50⟩ := gtI e48
   refine zg hT hA { tk := [16] } (by (repeat (cbv; simp only [c43, f49, f50])); try cbv) (lb rfl) ?_
   refine nT (zs (zs ?_))
   obtain ⟨v52, hvK53, hsK83⟩ := bindS hsK83
   refine AWp.cutN [0, 3, 4, 26] [] 0 (lb rfl) (fun τ => τ = { env := [(0, (zl 4 x1)), (3, (zi v42)), (4, (.lbox [(zi a44), (zi a45), (zl 1 a46), (zl 1 a47)])), (26, (.d (.bool v52)))], heap := [], n := 58 }) ?_ ?_
   ·skip
    rcases tf (A.zlt 20 (A.len a46)) with c51 | c51
    ·replace hvK53 := cT c51 hvK53
     refine zg hT hA {} (by (repeat (cbv; simp only [c43, c51])); try cbv) (lb rfl) ?_
     cases soI hvK53
     exact oNi ⟨rfl, (by first | (cbv; done) | ((repeat (cbv; simp only [c43, c51])); try cbv))⟩
    ·replace hvK53 := cF c51 hvK53
     refine zg hT hA {} (by (repeat (cbv; simp only [c43, c51])); try cbv) (lb rfl) ?_
     cases soI hvK53
     exact oNi ⟨rfl, (by first | (cbv; done) | ((repeat (cbv; simp only [c43, c51])); try cbv))⟩
   ·rintro _ rfl
    refine nT ?_
    rcases tf v52 with c54 | c54
    ·replace hsK83 := cT c54 hsK83
     refine zt rfl (by first | rfl | simp only [c54, zqa, zqb, zqc, zqd]) ?_
     refine zs ?_
     refine zg hT hA {} (by (repeat (cbv; simp only [c54])); try cbv) (lb rfl) ?_
     refine nT ?_
     refine zr ?_
     refine rT ?_
     refine rB ?_
     refine rT ?_
     refine rT ?_
     refine exL hsK83 fun hx => ?_
     subst hx
     refine oxR ?_
     replace hkK83 := (eR (hK83 _ hkK83))
     refine rB ?_
     refine rT ?_
     cases soI hkK83
     exact ⟨rfl, rfl, rfl, lb rfl, _, rfl⟩
    ·replace hsK83 := cF c54 hsK83
     refine zf rfl (by first | rfl | simp only [c54, zqa, zqb, zqc, zqd]) ?_
     refine zk ?_
     refine nT (zs (zs ?_))
     refine zg hT hA {} (by (repeat (cbv; simp only [c54])); try cbv) (lb rfl) ?_
     refine nT (zb ?_)
     obtain ⟨xK68, hxK68, K68, hK68, hkK68⟩ := bindK hsK83
     refine AWp.cutX 2 [0, 3, 4] [] 0 (lb rfl) (fun τ => K68 (.inl ()) = some eK83 ∧ τ = { env := [(0, (zl 4 x1)), (3, (zi v42)), (4, (.lbox [(zi a44), (zi a45), (zl 1 a46), (zl 1 a47)]))], heap := [], n := 58 }) ?_ ?_
     ·skip
      refine AWp.iter hxK68 [0, 3, 4, 5] [] 0 (lb rfl) (fun v61 => { env := [(0, (zl 4 x1)), (3, (zi v42)), (4, (.lbox [(zi a44), (zi a45), (zl 1 a46), (zl 1 a47)])), (5, (zi v61))], heap := [], n := 58 }) ⟨rfl, (by first | (cbv; done) | ((repeat (cbv; simp only [c54])); try cbv))⟩ ?_
      rintro v61 eK68 hsK68
      dsimp only [C41L0] at hsK68
      refine zs (zs ?_)
      refine zg hT hA {} (by cbv) (lb rfl) ?_
      refine nT ?_
      rcases tf (A.zlt v61 (A.len a46)) with c62 | c62
      ·replace hsK68 := cT c62 hsK68
       refine zt rfl (by first | rfl | simp only [c62, zqa, zqb, zqc, zqd]) ?_
       refine zk ?_
       refine nT (zs (zb (zs ?_)))
       obtain ⟨a63, e64, hsK68⟩ := bindS hsK68
       obtain ⟨f65, f66⟩ := gtI e64
       refine zg hT hA {} (by (repeat (cbv; simp only [c62, f65, f66])); try cbv) (lb rfl) ?_
       refine nT ?_
       rcases tf (A.zlt 20 (A.len a63)) with c67 | c67
       ·replace hsK68 := cT c67 hsK68
        refine zt rfl (by first | rfl | simp only [c62, c67, zqa, zqb, zqc, zqd]) ?_
        refine zs ?_
        refine zg hT hA {} (by (repeat (cbv; simp only [c62, c67])); try cbv) (lb rfl) ?_
        refine nT ?_
        refine zr ?_
        refine rB ?_
        refine rT ?_
        refine rT ?_
        refine exL hsK68 fun hx => ?_
        subst hx
        refine oxR ?_
        replace hkK68 := (eR (hK68 _ hkK68))
        refine rB ?_
        refine rT ?_
        refine rB ?_
        refine rT ?_
        refine rT ?_
        refine exL hkK68 fun hx => ?_
        subst hx
        refine oxR ?_
        replace hkK83 := (eR (hK83 _ hkK83))
        refine rB ?_
        refine rT ?_
        cases soI hkK83
        exact ⟨rfl, rfl, rfl, lb rfl, _, rfl⟩
       ·replace hsK68 := cF c67 hsK68
        refine zf rfl (by first | rfl | simp only [c62, c67, zqa, zqb, zqc, zqd]) ?_
        refine zk ?_
        refine nB ?_
        refine nT ?_
        refine zg hT hA {} (by (repeat (cbv; simp only [c62, c67])); try cbv) (lb rfl) ?_
        exact nT ⟨_, (soI hsK68).symm, rfl, (by first | (cbv; done) | ((repeat (cbv; simp only [c62, c67])); try cbv))⟩
      ·replace hsK68 := cF c62 hsK68
       refine zf rfl (by first | rfl | simp only [c62, zqa, zqb, zqc, zqd]) ?_
       refine AWp.exit ?_
       refine xT ?_
       refine xT ?_
       refine exL hsK68 fun hx => ?_
       subst hx
       exact oxI ⟨rfl, hkK68, (by first | (cbv; done) | ((repeat (cbv; simp only [c62])); try cbv))⟩
     ·rintro _ ⟨hkK68, rfl⟩
      have hsK83 := (eL (hK68 _ hkK68))
      refine xB ?_
      refine nT (zs ?_)
      refine zg hT hA {} (by cbv) (lb rfl) ?_
      refine nT (zb ?_)
      obtain ⟨xK82, hxK82, K82, hK82, hkK82⟩ := bindK hsK83
      refine AWp.cutX 4 [0, 3] [] 0 (lb rfl) (fun τ => K82 (.inl ()) = some eK83 ∧ τ = { env := [(0, (zl 4 x1)), (3, (zi v42))], heap := [], n := 58 }) ?_ ?_
      ·skip
       refine AWp.iter hxK82 [0, 3, 4, 6] [] 0 (lb rfl) (fun v75 => { env := [(0, (zl 4 x1)), (3, (zi v42)), (4, (.lbox [(zi a44), (zi a45), (zl 1 a46), (zl 1 a47)])), (6, (zi v75))], heap := [], n := 58 }) ⟨rfl, (by cbv)⟩ ?_
       rintro v75 eK82 hsK82
       dsimp only [C41L1] at hsK82
       refine zs (zs ?_)
       refine zg hT hA {} (by cbv) (lb rfl) ?_
       refine nT ?_
       rcases tf (A.zlt v75 (A.len a47)) with c76 | c76
       ·replace hsK82 := cT c76 hsK82
        refine zt rfl (by first | rfl | simp only [c76, zqa, zqb, zqc, zqd]) ?_
        refine zk ?_
        refine nT (zs (zb (zs ?_)))
        obtain ⟨a77, e78, hsK82⟩ := bindS hsK82
        obtain ⟨f79, f80⟩ := gtI e78
        refine zg hT hA {} (by (repeat (cbv; simp only [c76, f79, f80])); try cbv) (lb rfl) ?_
        refine nT ?_
        rcases tf (A.zlt 20 (A.len a77)) with c81 | c81
        ·replace hsK82 := cT c81 hsK82
         refine zt rfl (by first | rfl | simp only [c76, c81, zqa, zqb, zqc, zqd]) ?_
         refine zs ?_
         refine zg hT hA {} (by (repeat (cbv; simp only [c76, c81])); try cbv) (lb rfl) ?_
         refine nT ?_
         refine zr ?_
         refine rB ?_
         refine rT ?_
         refine rT ?_
         refine exL hsK82 fun hx => ?_
         subst hx
         refine oxR ?_
         replace hkK82 := (eR (hK82 _ hkK82))
         refine rB ?_
         refine rB ?_
         refine rT ?_
         refine rT ?_
         refine exL hkK82 fun hx => ?_
         subst hx
         refine oxR ?_
         replace hkK83 := (eR (hK83 _ hkK83))
         refine rB ?_
         refine rT ?_
         cases soI hkK83
         exact ⟨rfl, rfl, rfl, lb rfl, _, rfl⟩
        ·replace hsK82 := cF c81 hsK82
         refine zf rfl (by first | rfl | simp only [c76, c81, zqa, zqb, zqc, zqd]) ?_
         refine zk ?_
         refine nB ?_
         refine nT ?_
         refine zg hT hA {} (by (repeat (cbv; simp only [c76, c81])); try cbv) (lb rfl) ?_
         exact nT ⟨_, (soI hsK82).symm, rfl, (by first | (cbv; done) | ((repeat (cbv; simp only [c76, c81])); try cbv))⟩
       ·replace hsK82 := cF c76 hsK82
        refine zf rfl (by first | rfl | simp only [c76, zqa, zqb, zqc, zqd]) ?_
        refine AWp.exit ?_
        refine xT ?_
        refine xT ?_
        refine exL hsK82 fun hx => ?_
        subst hx
        exact oxI ⟨rfl, hkK82, (by first | (cbv; done) | ((repeat (cbv; simp only [c76])); try cbv))⟩
      ·rintro _ ⟨hkK82, rfl⟩
       have hsK83 := (eL (hK82 _ hkK82))
       refine xB ?_
       refine nB ?_
       refine nT ?_
       refine zg hT hA {} (by cbv) (lb rfl) ?_
       exact nT ⟨_, (soI hsK83).symm, rfl, (by cbv)⟩
  ·replace hsK83 := cF c43 hsK83
   refine zf rfl (by first | rfl | simp only [c43, zqa, zqb, zqc, zqd]) ?_
   refine AWp.exit ?_
   refine xT ?_
   refine xT ?_
   refine exL hsK83 fun hx => ?_
   subst hx
   exact oxI ⟨rfl, hkK83, (by first | (cbv; done) | ((repeat (cbv; simp only [c43])); try cbv))⟩
 ·rintro _ ⟨hkK83, rfl⟩
  have h := (eL (hK83 _ hkK83))
  refine xB ?_
  refine nT (zs ?_)
  refine zg hT hA { tk := [57] } (by cbv) (lb rfl) ?_
  refine nT ?_
  refine zr ?_
  cases soI h
  exact ⟨rfl, rfl, rfl, lb rfl, _, rfl⟩

theorem C9w {A : Ar} (hA : A = Ar.std) {x1 x2 : Int} {x3 x4 x5 x6 : List D} {v41 : Bool} (h : C9 A x1 x2 x3 x4 x5 x6 = some v41) : ACall Try.prog 9 [(.d (.agg [(.int .i64 x1), (.int .i64 x2), (.list 1 x3), (.list 1 x4), (.list 1 x5), (.list 1 x6)]))] [] (.d (.bool v41)) [] := by
 unfold C9 at h
 refine ACall.enter hT (fn := Try.f9) Try.func9 rfl (by decide) (by simp [Try.f9]) rfl rfl rfl rfl (lb rfl) ?_
 refine zs ?_
 refine zg hT hA {} (by cbv) (lb rfl) ?_
 refine nT (zs (zs ?_))
 refine zg hT hA {} (by cbv) (lb rfl) ?_
 refine nT (zb ?_)
 obtain ⟨xK20, hxK20, K20, hK20, hkK20⟩ := bindK h
 refine AWp.cutX 0 [1] [] 0 (lb rfl) (fun τ => K20 (.inl ()) = some v41 ∧ τ = { env := [(1, (.lbox [(zi x1), (zi x2), (zl 1 x3), (zl 1 x4), (zl 1 x5), (zl 1 x6)]))], heap := [], n := 49 }) ?_ ?_
 ·skip
  refine AWp.iter hxK20 [1, 3] [] 0 (lb rfl) (fun v13 => { env := [(1, (.lbox [(zi x1), (zi x2), (zl 1 x3), (zl 1 x4), (zl 1 x5), (zl 1 x6)])), (3, (zi v13))], heap := [], n := 49 }) ⟨rfl, (by cbv)⟩ ?_
  rintro v13 eK20 hsK20
  dsimp only [C9L0] at hsK20
  refine zs (zs ?_)
  refine zg hT hA {} (by cbv) (lb rfl) ?_
  refine nT ?_
  rcases tf (A.zlt v13 (A.len x5)) with c14 | c14
  ·replace hsK20 := cT c14 hsK20
   refine zt rfl (by first | rfl | simp only [c14, zqa, zqb, zqc, zqd]) ?_
   refine zk ?_
   refine nT (zs (zb (zs ?_)))
   obtain ⟨a15, e16, hsK20⟩ := bindS hsK20
   obtain ⟨f17, f18⟩ := gtI e16
   refine zg hT hA {} (by (repeat (cbv; simp only [c14, f17, f18])); try cbv) (lb rfl) ?_
   refine nT ?_
   rcases tf (A.zlt 30 (A.len a15)) with c19 | c19
   ·replace hsK20 := cT c19 hsK20
    refine zt rfl (by first | rfl | simp only [c14, c19, zqa, zqb, zqc, zqd]) ?_
    refine zs ?_
    refine zg hT hA {} (by (repeat (cbv; simp only [c14, c19])); try cbv) (lb rfl) ?_
    refine nT ?_
    refine zr ?_
    refine rB ?_
    refine rT ?_
    refine rT ?_
    refine exL hsK20 fun hx => ?_
    subst hx
    refine oxR ?_
    replace hkK20 := (eR (hK20 _ hkK20))
    refine rB ?_
    refine rT ?_
    cases soI hkK20
    exact ⟨rfl, rfl, rfl, lb rfl, _, rfl⟩
   ·replace hsK20 := cF c19 hsK20
    refine zf rfl (by first | rfl | simp only [c14, c19, zqa, zqb, zqc, zqd]) ?_
    refine zk ?_
    refine nB ?_
    refine nT ?_
    refine zg hT hA {} (by (repeat (cbv; simp only [c14, c19])); try cbv) (lb rfl) ?_
    exact nT ⟨_, (soI hsK20).symm, rfl, (by first | (cbv; done) | ((repeat (cbv; simp only [c14, c19])); try cbv))⟩
  ·replace hsK20 := cF c14 hsK20
   refine zf rfl (by first | rfl | simp only [c14, zqa, zqb, zqc, zqd]) ?_
   refine AWp.exit ?_
   refine xT ?_
   refine xT ?_
   refine exL hsK20 fun hx => ?_
   subst hx
   exact oxI ⟨rfl, hkK20, (by first | (cbv; done) | ((repeat (cbv; simp only [c14])); try cbv))⟩
 ·rintro _ ⟨hkK20, rfl⟩
  have h := (eL (hK20 _ hkK20))
  refine xB ?_
  refine nT (zs (zs ?_))
  refine zg hT hA {} (by cbv) (lb rfl) ?_
  refine nT (zb ?_)
  obtain ⟨xK34, hxK34, K34, hK34, hkK34⟩ := bindK h
  refine AWp.cutX 2 [1] [] 0 (lb rfl) (fun τ => K34 (.inl ()) = some v41 ∧ τ = { env := [(1, (.lbox [(zi x1), (zi x2), (zl 1 x3), (zl 1 x4), (zl 1 x5), (zl 1 x6)]))], heap := [], n := 49 }) ?_ ?_
  ·skip
   refine AWp.iter hxK34 [1, 4] [] 0 (lb rfl) (fun v27 => { env := [(1, (.lbox [(zi x1), (zi x2), (zl 1 x3), (zl 1 x4), (zl 1 x5), (zl 1 x6)])), (4, (zi v27))], heap := [], n := 49 }) ⟨rfl, (by cbv)⟩ ?_
   rintro v27 eK34 hsK34
   dsimp only [C9L1] at hsK34
   refine zs (zs ?_)
   refine zg hT hA {} (by cbv) (lb rfl) ?_
   refine nT ?_
   rcases tf (A.zlt v27 (A.len x6)) with c28 | c28
   ·replace hsK34 := cT c28 hsK34
    refine zt rfl (by first | rfl | simp only [c28, zqa, zqb, zqc, zqd]) ?_
    refine zk ?_
    refine nT (zs (zb (zs ?_)))
    obtain ⟨a29, e30, hsK34⟩ := bindS hsK34
    obtain ⟨f31, f32⟩ := gtI e30
    refine zg hT hA {} (by (repeat (cbv; simp only [c28, f31, f32])); try cbv) (lb rfl) ?_
    refine nT ?_
    rcases tf (A.zlt 20 (A.len a29)) with c33 | c33
    ·replace hsK34 := cT c33 hsK34
     refine zt rfl (by first | rfl | simp only [c28, c33, zqa, zqb, zqc, zqd]) ?_
     refine zs ?_
     refine zg hT hA {} (by (repeat (cbv; simp only [c28, c33])); try cbv) (lb rfl) ?_
     refine nT ?_
     refine zr ?_
     refine rB ?_
     refine rT ?_
     refine rT ?_
     refine exL hsK34 fun hx => ?_
     subst hx
     refine oxR ?_
     replace hkK34 := (eR (hK34 _ hkK34))
     refine rB ?_
     refine rT ?_
     cases soI hkK34
     exact ⟨rfl, rfl, rfl, lb rfl, _, rfl⟩
    ·replace hsK34 := cF c33 hsK34
     refine zf rfl (by first | rfl | simp only [c28, c33, zqa, zqb, zqc, zqd]) ?_
     refine zk ?_
     refine nB ?_
     refine nT ?_
     refine zg hT hA {} (by (repeat (cbv; simp only [c28, c33])); try cbv) (lb rfl) ?_
     exact nT ⟨_, (soI hsK34).symm, rfl, (by first | (cbv; done) | ((repeat (cbv; simp only [c28, c33])); try cbv))⟩
   ·replace hsK34 := cF c28 hsK34
    refine zf rfl (by first | rfl | simp only [c28, zqa, zqb, zqc, zqd]) ?_
    refine AWp.exit ?_
    refine xT ?_
    refine xT ?_
    refine exL hsK34 fun hx => ?_
    subst hx
    exact oxI ⟨rfl, hkK34, (by first | (cbv; done) | ((repeat (cbv; simp only [c28])); try cbv))⟩
  ·rintro _ ⟨hkK34, rfl⟩
   have h := (eL (hK34 _ hkK34))
   refine xB ?_
   refine nT (zs ?_)
   obtain ⟨v39, hvK40, h⟩ := bindS h
   refine AWp.cutN [2] [] 0 (lb rfl) (fun τ => τ = { env := [(2, (.d (.bool v39)))], heap := [], n := 49 }) ?_ ?_
   ·skip
    refine zn ?_
    obtain ⟨r36, e35, hvK40⟩ := bindS hvK40
    refine AOps.cc hT hA { tk := [48] } (by cbv) (lb rfl) (C41w hA e35) rfl (.inl rfl) rfl rfl rfl (lb rfl) rfl rfl ?_
    rcases tf r36 with c37 | c37
    ·replace hvK40 := cT c37 hvK40
     refine AOps.cd hT hA { tk := [48] } (by (repeat (cbv; simp only [c37])); try cbv) (lb rfl) ?_
     cases soI hvK40
     exact oNi ⟨rfl, (by first | (cbv; done) | ((repeat (cbv; simp only [c37])); try cbv))⟩
    ·replace hvK40 := cF c37 hvK40
     rcases tf (A.zlt 10 (A.len x5)) with c38 | c38
     ·replace hvK40 := cT c38 hvK40
      refine AOps.cd hT hA { tk := [48] } (by (repeat (cbv; simp only [c37, c38])); try cbv) (lb rfl) ?_
      cases soI hvK40
      exact oNi ⟨rfl, (by first | (cbv; done) | ((repeat (cbv; simp only [c37, c38])); try cbv))⟩
     ·replace hvK40 := cF c38 hvK40
      refine AOps.cd hT hA { tk := [48] } (by (repeat (cbv; simp only [c37, c38])); try cbv) (lb rfl) ?_
      cases soI hvK40
      exact oNi ⟨rfl, (by first | (cbv; done) | ((repeat (cbv; simp only [c37, c38])); try cbv))⟩
   ·rintro _ rfl
    refine nT ?_
    refine zr ?_
    cases soI h
    exact ⟨rfl, rfl, rfl, lb rfl, _, rfl⟩

theorem C47w {A : Ar} (hA : A = Ar.std) {x1 x2 x3 : Int} {v7 : Bool} (h : C47 A x1 x2 x3 = some v7) : ACall Try.prog 47 [(zi x1), (zi x2), (zi x3)] [] (.d (.bool v7)) [] := by
 unfold C47 at h
 refine ACall.enter hT (fn := Try.f47) Try.func47 rfl (by decide) (by simp [Try.f47]) rfl rfl rfl rfl (lb rfl) ?_
 refine zs ?_
 refine zg hT hA {} (by cbv) (lb rfl) ?_
 refine nT (zs ?_)
 obtain ⟨v5, hvK6, h⟩ := bindS h
 refine AWp.cutN [6] [] 0 (lb rfl) (fun τ => τ = { env := [(6, (.d (.bool v5)))], heap := [], n := 15 }) ?_ ?_
 ·skip
  rcases tf (A.zle x1 x2) with c4 | c4
  ·replace hvK6 := cT c4 hvK6
   refine zg hT hA { tk := [14] } (by (repeat (cbv; simp only [c4])); try cbv) (lb rfl) ?_
   cases soI hvK6
   exact oNi ⟨rfl, (by first | (cbv; done) | ((repeat (cbv; simp only [c4])); try cbv))⟩
  ·replace hvK6 := cF c4 hvK6
   refine zg hT hA { tk := [14] } (by (repeat (cbv; simp only [c4])); try cbv) (lb rfl) ?_
   cases soI hvK6
   exact oNi ⟨rfl, (by first | (cbv; done) | ((repeat (cbv; simp only [c4])); try cbv))⟩
 ·rintro _ rfl
  refine nT ?_
  refine zr ?_
  cases soI h
  exact ⟨rfl, rfl, rfl, lb rfl, _, rfl⟩

theorem C163w {A : Ar} (hA : A = Ar.std) {x1 : Int} {v4 : Bool} (h : C163 A x1 = some v4) : ACall Try.prog 163 [(zi x1)] [] (.d (.bool v4)) [] := by
 unfold C163 at h
 refine ACall.enter hT (fn := Try.f163) Try.func163 rfl (by decide) (by simp [Try.f163]) rfl rfl rfl rfl (lb rfl) ?_
 refine zs ?_
 refine zg hT hA {} (by cbv) (lb rfl) ?_
 refine nT (zs (zn ?_))
 obtain ⟨r3, e2, h⟩ := bindS h
 refine AOps.cc hT hA { tk := [5] } (by cbv) (lb rfl) (C47w hA e2) rfl (.inl rfl) rfl rfl rfl (lb rfl) rfl rfl ?_
 refine AOps.cd hT hA { tk := [5] } (by cbv) (lb rfl) ?_
 refine nT ?_
 refine zr ?_
 cases soI h
 exact ⟨rfl, rfl, rfl, lb rfl, _, rfl⟩

theorem C162w {A : Ar} (hA : A = Ar.std) {x1 : List D} {v21 : Int} (h : C162 A x1 = some v21) : ACall Try.prog 162 [(zl 1 x1), (.func 163 [] [])] [] (zi v21) [] := by
 unfold C162 at h
 refine ACall.enter hT (fn := Try.f162) Try.func162 rfl (by decide) (by simp [Try.f162]) rfl rfl rfl rfl (lb rfl) ?_
 refine zs ?_
 refine zg hT hA {} (by cbv) (lb rfl) ?_
 refine nT (zs (zs ?_))
 refine zg hT hA {} (by cbv) (lb rfl) ?_
 refine nT (zb ?_)
 obtain ⟨xK20, hxK20, K20, hK20, hkK20⟩ := bindK h
 refine AWp.cutX 0 [] [] 0 (lb rfl) (fun τ => K20 (.inl ()) = some v21 ∧ τ = { env := [], heap := [], n := 19 }) ?_ ?_
 ·skip
  refine AWp.iter hxK20 [0, 1, 7, 8] [] 0 (lb rfl) (fun v10 => { env := [(0, (zl 1 x1)), (1, (.func 163 [] [])), (7, (.d (.int .i64 (A.len x1)))), (8, (zi v10))], heap := [], n := 19 }) ⟨rfl, (by cbv)⟩ ?_
  rintro v10 eK20 hsK20
  dsimp only [C162L0] at hsK20
  refine zs ?_
  refine zg hT hA {} (by cbv) (lb rfl) ?_
  refine nT (zs ?_)
  rcases tf (A.zlt v10 (A.len x1)) with c11 | c11
  ·replace hsK20 := cT c11 hsK20
   refine zt rfl (by first | rfl | simp only [c11, zqa, zqb, zqc, zqd]) ?_
   refine zk ?_
   refine nT (zs (zb (zs ?_)))
   refine zg hT hA { tk := [8, 10] } (by (repeat (cbv; simp only [c11])); try cbv) (lb rfl) ?_
   refine nT (zs (zn ?_))
   obtain ⟨a12, e13, hsK20⟩ := bindS hsK20
   obtain ⟨f14, f15⟩ := gtI e13
   obtain ⟨r17, e16, hsK20⟩ := bindS hsK20
   refine AOps.cc hT hA {} (by (repeat (cbv; simp only [c11, f14, f15])); try cbv) (lb rfl) (C163w hA e16) rfl (.inl rfl) rfl rfl rfl (lb rfl) rfl rfl ?_
   refine AOps.cd hT hA {} (by (repeat (cbv; simp only [c11, f14, f15])); try cbv) (lb rfl) ?_
   refine nT ?_
   rcases tf r17 with c18 | c18
   ·replace hsK20 := cT c18 hsK20
    refine zt rfl (by first | rfl | simp only [c11, c18, zqa, zqb, zqc, zqd]) ?_
    refine zs ?_
    refine zg hT hA { tk := [5, 17] } (by (repeat (cbv; simp only [c11, c18])); try cbv) (lb rfl) ?_
    refine nT ?_
    refine zr ?_
    refine rB ?_
    refine rT ?_
    refine rT ?_
    refine exL hsK20 fun hx => ?_
    subst hx
    refine oxR ?_
    replace hkK20 := (eR (hK20 _ hkK20))
    refine rB ?_
    refine rT ?_
    cases soI hkK20
    exact ⟨rfl, rfl, rfl, lb rfl, _, rfl⟩
   ·replace hsK20 := cF c18 hsK20
    refine zf rfl (by first | rfl | simp only [c11, c18, zqa, zqb, zqc, zqd]) ?_
    refine zk ?_
    refine nB ?_
    refine nT ?_
    refine zg hT hA { tk := [18] } (by (repeat (cbv; simp only [c11, c18])); try cbv) (lb rfl) ?_
    exact nT ⟨_, (soI hsK20).symm, rfl, (by first | (cbv; done) | ((repeat (cbv; simp only [c11, c18])); try cbv))⟩
  ·replace hsK20 := cF c11 hsK20
   refine zf rfl (by first | rfl | simp only [c11, zqa, zqb, zqc, zqd]) ?_
   refine AWp.exit ?_
   refine xT ?_
   refine xT ?_
   refine exL hsK20 fun hx => ?_
   subst hx
   exact oxI ⟨rfl, hkK20, (by first | (cbv; done) | ((repeat (cbv; simp only [c11])); try cbv))⟩
 ·rintro _ ⟨hkK20, rfl⟩
  have h := (eL (hK20 _ hkK20))
  refine xB ?_
  refine nT (zs ?_)
  refine zg hT hA {} (by cbv) (lb rfl) ?_
  refine nT ?_
  refine zr ?_
  cases soI h
  exact ⟨rfl, rfl, rfl, lb rfl, _, rfl⟩

theorem C135w {A : Ar} (hA : A = Ar.std) {x1 : List D} {v4 : Bool} (h : C135 A x1 = some v4) : ACall Try.prog 135 [(zl 1 x1), (.func 163 [] [])] [] (.d (.bool v4)) [] := by
 unfold C135 at h
 refine ACall.enter hT (fn := Try.f135) Try.func135 rfl (by decide) (by simp [Try.f135]) rfl rfl rfl rfl (lb rfl) ?_
 refine zs ?_
 refine zg hT hA {} (by cbv) (lb rfl) ?_
 refine nT (zs (zn ?_))
 obtain ⟨r3, e2, h⟩ := bindS h
 refine AOps.cc hT hA { tk := [8] } (by cbv) (lb rfl) (C162w hA e2) rfl (.inl rfl) rfl rfl rfl (lb rfl) rfl rfl ?_
 refine AOps.cd hT hA { tk := [8] } (by cbv) (lb rfl) ?_
 refine nT ?_
 refine zr ?_
 cases soI h
 exact ⟨rfl, rfl, rfl, lb rfl, _, rfl⟩

theorem C138w {A : Ar} (hA : A = Ar.std) {x1 : List D} {v4 : Bool} (h : C138 A x1 = some v4) : ACall Try.prog 138 [(zl 1 x1)] [] (.d (.bool v4)) [] := by
 unfold C138 at h
 refine ACall.enter hT (fn := Try.f138) Try.func138 rfl (by decide) (by simp [Try.f138]) rfl rfl rfl rfl (lb rfl) ?_
 refine zs ?_
 refine zg hT hA {} (by cbv) (lb rfl) ?_
 refine nT (zs (zn ?_))
 obtain ⟨r3, e2, h⟩ := bindS h
 refine AOps.cc hT hA { tk := [5] } (by cbv) (lb rfl) (C135w hA e2) rfl (.inl rfl) rfl rfl rfl (lb rfl) rfl rfl ?_
 refine AOps.cd hT hA { tk := [5] } (by cbv) (lb rfl) ?_
 refine nT ?_
 refine zr ?_
 cases soI h
 exact ⟨rfl, rfl, rfl, lb rfl, _, rfl⟩

theorem C79w {A : Ar} (hA : A = Ar.std) {x1 : Int} {v4 : Bool} (h : C79 A x1 = some v4) : ACall Try.prog 79 [(zi x1)] [] (.d (.bool v4)) [] := by
 unfold C79 at h
 refine ACall.enter hT (fn := Try.f79) Try.func79 rfl (by decide) (by simp [Try.f79]) rfl rfl rfl rfl (lb rfl) ?_
 refine zs ?_
 refine zg hT hA {} (by cbv) (lb rfl) ?_
 refine nT (zs (zn ?_))
 obtain ⟨r3, e2, h⟩ := bindS h
 refine AOps.cc hT hA { tk := [4] } (by cbv) (lb rfl) (C47w hA e2) rfl (.inl rfl) rfl rfl rfl (lb rfl) rfl rfl ?_
 refine AOps.cd hT hA { tk := [4] } (by cbv) (lb rfl) ?_
 refine nT ?_
 refine zr ?_
 cases soI h
 exact ⟨rfl, rfl, rfl, lb rfl, _, rfl⟩

theorem C110w {A : Ar} (hA : A = Ar.std) {x1 x2 x3 x4 x5 : Int} {v60 : Bool} (h : C110 A x1 x2 x3 x4 x5 = some v60) : ACall Try.prog 110 [(.d (.agg [(.int .i64 x1), (.int .i64 x2), (.int .i64 x3), (.int .i64 x4)])), (zi x5)] [] (.d (.bool v60)) [] := by
 unfold C110 at h
 refine ACall.enter hT (fn := Try.f110) Try.func110 rfl (by decide) (by simp [Try.f110]) rfl rfl rfl rfl (lb rfl) ?_
 refine zs ?_
 refine zg hT hA {} (by cbv) (lb rfl) ?_
 refine nT (zs (zs ?_))
 refine zg hT hA {} (by cbv) (lb rfl) ?_
 refine nT (zb (zs ?_))
 refine zg hT hA {} (by cbv) (lb rfl) ?_
 refine nT ?_
 rcases tf (A.zeq x1 1) with c6 | c6
 ·replace h := cT c6 h
  refine zt rfl (by first | rfl | simp only [c6, zqa, zqb, zqc, zqd]) ?_
  refine zs ?_
  obtain ⟨v13, hvK14, h⟩ := bindS h
  refine AWp.cutN [4] [] 0 (lb rfl) (fun τ => τ = { env := [(4, (.d (.bool v13)))], heap := [], n := 112 }) ?_ ?_
  ·skip
   refine zn ?_
   obtain ⟨r8, e7, hvK14⟩ := bindS hvK14
   refine AOps.cc hT hA { tk := [22] } (by (repeat (cbv; simp only [c6])); try cbv) (lb rfl) (C138w hA e7) rfl (.inl rfl) rfl rfl rfl (lb rfl) rfl rfl ?_
   rcases tf r8 with c9 | c9
   ·replace hvK14 := cT c9 hvK14
    obtain ⟨r11, e10, hvK14⟩ := bindS hvK14
    refine AOps.cc hT hA { tk := [22] } (by (repeat (cbv; simp only [c6, c9])); try cbv) (lb rfl) (C79w hA e10) rfl (.inl rfl) rfl rfl rfl (lb rfl) rfl rfl ?_
    rcases tf r11 with c12 | c12
    ·replace hvK14 := cT c12 hvK14
     refine AOps.cd hT hA { tk := [22] } (by (repeat (cbv; simp only [c6, c9, c12])); try cbv) (lb rfl) ?_
     cases soI hvK14
     exact oNi ⟨rfl, (by first | (cbv; done) | ((repeat (cbv; simp only [c6, c9, c12])); try cbv))⟩
    ·replace hvK14 := cF c12 hvK14
     refine AOps.cd hT hA { tk := [22] } (by (repeat (cbv; simp only [c6, c9, c12])); try cbv) (lb rfl) ?_
     cases soI hvK14
     exact oNi ⟨rfl, (by first | (cbv; done) | ((repeat (cbv; simp only [c6, c9, c12])); try cbv))⟩
   ·replace hvK14 := cF c9 hvK14
    refine AOps.cd hT hA { tk := [22] } (by (repeat (cbv; simp only [c6, c9])); try cbv) (lb rfl) ?_
    cases soI hvK14
    exact oNi ⟨rfl, (by first | (cbv; done) | ((repeat (cbv; simp only [c6, c9])); try cbv))⟩
  ·rintro _ rfl
   refine nT ?_
   refine zr ?_
   refine rB ?_
   refine rT ?_
   cases soI h
   exact ⟨rfl, rfl, rfl, lb rfl, _, rfl⟩
 ·replace h := cF c6 h
  refine zf rfl (by first | rfl | simp only [c6, zqa, zqb, zqc, zqd]) ?_
  refine zs ?_
  refine zg hT hA {} (by (repeat (cbv; simp only [c6])); try cbv) (lb rfl) ?_
  refine nT ?_
  rcases tf (A.zeq x1 2) with c15 | c15
  ·replace h := cT c15 h
   refine zt rfl (by first | rfl | simp only [c6, c15, zqa, zqb, zqc, zqd]) ?_
   refine zs ?_
   obtain ⟨v22, hvK23, h⟩ := bindS h
   refine AWp.cutN [4] [] 0 (lb rfl) (fun τ => τ = { env := [(4, (.d (.bool v22)))], heap := [], n := 112 }) ?_ ?_
   ·skip
    refine zn ?_
    obtain ⟨r17, e16, hvK23⟩ := bindS hvK23
    refine AOps.cc hT hA { tk := [38] } (by (repeat (cbv; simp only [c6, c15])); try cbv) (lb rfl) (C79w hA e16) rfl (.inl rfl) rfl rfl rfl (lb rfl) rfl rfl ?_
    rcases tf r17 with c18 | c18
    ·replace hvK23 := cT c18 hvK23
     obtain ⟨r20, e19, hvK23⟩ := bindS hvK23
     refine AOps.cc hT hA { tk := [38] } (by (repeat (cbv; simp only [c6, c15, c18])); try cbv) (lb rfl) (C138w hA e19) rfl (.inl rfl) rfl rfl rfl (lb rfl) rfl rfl ?_
     rcases tf r20 with c21 | c21
     ·replace hvK23 := cT c21 hvK23
      refine AOps.cd hT hA { tk := [38] } (by (repeat (cbv; simp only [c6, c15, c18, c21])); try cbv) (lb rfl) ?_
      cases soI hvK23
      exact oNi ⟨rfl, (by first | (cbv; done) | ((repeat (cbv; simp only [c6, c15, c18, c21])); try cbv))⟩
     ·replace hvK23 := cF c21 hvK23
      refine AOps.cd hT hA { tk := [38] } (by (repeat (cbv; simp only [c6, c15, c18, c21])); try cbv) (lb rfl) ?_
      cases soI hvK23
      exact oNi ⟨rfl, (by first | (cbv; done) | ((repeat (cbv; simp only [c6, c15, c18, c21])); try cbv))⟩
    ·replace hvK23 := cF c18 hvK23
     refine AOps.cd hT hA { tk := [38] } (by (repeat (cbv; simp only [c6, c15, c18])); try cbv) (lb rfl) ?_
     cases soI hvK23
     exact oNi ⟨rfl, (by first | (cbv; done) | ((repeat (cbv; simp only [c6, c15, c18])); try cbv))⟩
   ·rintro _ rfl
    refine nT ?_
    refine zr ?_
    refine rB ?_
    refine rT ?_
    cases soI h
    exact ⟨rfl, rfl, rfl, lb rfl, _, rfl⟩
  ·replace h := cF c15 h
   refine zf rfl (by first | rfl | simp only [c6, c15, zqa, zqb, zqc, zqd]) ?_
   refine zs ?_
   refine zg hT hA {} (by (repeat (cbv; simp only [c6, c15])); try cbv) (lb rfl) ?_
   refine nT ?_
   rcases tf (A.zeq x1 3) with c24 | c24
   ·replace h := cT c24 h
    refine zt rfl (by first | rfl | simp only [c6, c15, c24, zqa, zqb, zqc, zqd]) ?_
    refine zs ?_
    obtain ⟨v30, hvK31, h⟩ := bindS h
    refine AWp.cutN [4] [] 0 (lb rfl) (fun τ => τ = { env := [(4, (.d (.bool v30)))], heap := [], n := 112 }) ?_ ?_
    ·skip
     refine zn ?_
     obtain ⟨r26, e25, hvK31⟩ := bindS hvK31
     refine AOps.cc hT hA { tk := [51] } (by (repeat (cbv; simp only [c6, c15, c24])); try cbv) (lb rfl) (C79w hA e25) rfl (.inl rfl) rfl rfl rfl (lb rfl) rfl rfl ?_
     rcases tf r26 with c27 | c27
     ·replace hvK31 := cT c27 hvK31
      obtain ⟨r29, e28, hvK31⟩ := bindS hvK31
      refine AOps.cc hT hA { tk := [51] } (by (repeat (cbv; simp only [c6, c15, c24, c27])); try cbv) (lb rfl) (C138w hA e28) rfl (.inl rfl) rfl rfl rfl (lb rfl) rfl rfl ?_
      refine AOps.cd hT hA { tk := [51] } (by (repeat (cbv; simp only [c6, c15, c24, c27])); try cbv) (lb rfl) ?_
      cases soI hvK31
      exact oNi ⟨rfl, (by first | (cbv; done) | ((repeat (cbv; simp only [c6, c15, c24, c27])); try cbv))⟩
     ·replace hvK31 := cF c27 hvK31
      refine AOps.cd hT hA { tk := [51] } (by (repeat (cbv; simp only [c6, c15, c24, c27])); try cbv) (lb rfl) ?_
      cases soI hvK31
      exact oNi ⟨rfl, (by first | (cbv; done) | ((repeat (cbv; simp only [c6, c15, c24, c27])); try cbv))⟩
    ·rintro _ rfl
     refine nT ?_
     refine zr ?_
     refine rB ?_
     refine rT ?_
     cases soI h
     exact ⟨rfl, rfl, rfl, lb rfl, _, rfl⟩
   ·replace h := cF c24 h
    refine zf rfl (by first | rfl | simp only [c6, c15, c24, zqa, zqb, zqc, zqd]) ?_
    refine zs ?_
    refine zg hT hA {} (by (repeat (cbv; simp only [c6, c15, c24])); try cbv) (lb rfl) ?_
    refine nT ?_
    rcases tf (A.zeq x1 4) with c32 | c32
    ·replace h := cT c32 h
     refine zt rfl (by first | rfl | simp only [c6, c15, c24, c32, zqa, zqb, zqc, zqd]) ?_
     refine zs ?_
     obtain ⟨v39, hvK40, h⟩ := bindS h
     refine AWp.cutN [4] [] 0 (lb rfl) (fun τ => τ = { env := [(4, (.d (.bool v39)))], heap := [], n := 112 }) ?_ ?_
     ·skip
      refine zn ?_
      obtain ⟨r34, e33, hvK40⟩ := bindS hvK40
      refine AOps.cc hT hA { tk := [67] } (by (repeat (cbv; simp only [c6, c15, c24, c32])); try cbv) (lb rfl) (C138w hA e33) rfl (.inl rfl) rfl rfl rfl (lb rfl) rfl rfl ?_
      rcases tf r34 with c35 | c35
      ·replace hvK40 := cT c35 hvK40
       obtain ⟨r37, e36, hvK40⟩ := bindS hvK40
       refine AOps.cc hT hA { tk := [67] } (by (repeat (cbv; simp only [c6, c15, c24, c32, c35])); try cbv) (lb rfl) (C47w hA e36) rfl (.inl rfl) rfl rfl rfl (lb rfl) rfl rfl ?_
       rcases tf r37 with c38 | c38
       ·replace hvK40 := cT c38 hvK40
        refine AOps.cd hT hA { tk := [67] } (by (repeat (cbv; simp only [c6, c15, c24, c32, c35, c38])); try cbv) (lb rfl) ?_
        cases soI hvK40
        exact oNi ⟨rfl, (by first | (cbv; done) | ((repeat (cbv; simp only [c6, c15, c24, c32, c35, c38])); try cbv))⟩
       ·replace hvK40 := cF c38 hvK40
        refine AOps.cd hT hA { tk := [67] } (by (repeat (cbv; simp only [c6, c15, c24, c32, c35, c38])); try cbv) (lb rfl) ?_
        cases soI hvK40
        exact oNi ⟨rfl, (by first | (cbv; done) | ((repeat (cbv; simp only [c6, c15, c24, c32, c35, c38])); try cbv))⟩
      ·replace hvK40 := cF c35 hvK40
       refine AOps.cd hT hA { tk := [67] } (by (repeat (cbv; simp only [c6, c15, c24, c32, c35])); try cbv) (lb rfl) ?_
       cases soI hvK40
       exact oNi ⟨rfl, (by first | (cbv; done) | ((repeat (cbv; simp only [c6, c15, c24, c32, c35])); try cbv))⟩
     ·rintro _ rfl
      refine nT ?_
      refine zr ?_
      refine rB ?_
      refine rT ?_
      cases soI h
      exact ⟨rfl, rfl, rfl, lb rfl, _, rfl⟩
    ·replace h := cF c32 h
     refine zf rfl (by first | rfl | simp only [c6, c15, c24, c32, zqa, zqb, zqc, zqd]) ?_
     refine zs ?_
     refine zg hT hA {} (by (repeat (cbv; simp only [c6, c15, c24, c32])); try cbv) (lb rfl) ?_
     refine nT ?_
     rcases tf (A.zeq x1 5) with c41 | c41
     ·replace h := cT c41 h
      refine zt rfl (by first | rfl | simp only [c6, c15, c24, c32, c41, zqa, zqb, zqc, zqd]) ?_
      refine zs (zn ?_)
      obtain ⟨r43, e42, h⟩ := bindS h
      refine AOps.cc hT hA { tk := [77] } (by (repeat (cbv; simp only [c6, c15, c24, c32, c41])); try cbv) (lb rfl) (C138w hA e42) rfl (.inl rfl) rfl rfl rfl (lb rfl) rfl rfl ?_
      refine AOps.cd hT hA { tk := [77] } (by (repeat (cbv; simp only [c6, c15, c24, c32, c41])); try cbv) (lb rfl) ?_
      refine nT ?_
      refine zr ?_
      refine rB ?_
      refine rT ?_
      cases soI h
      exact ⟨rfl, rfl, rfl, lb rfl, _, rfl⟩
     ·replace h := cF c41 h
      refine zf rfl (by first | rfl | simp only [c6, c15, c24, c32, c41, zqa, zqb, zqc, zqd]) ?_
      refine zs ?_
      refine zg hT hA {} (by (repeat (cbv; simp only [c6, c15, c24, c32, c41])); try cbv) (lb rfl) ?_
      refine nT ?_
      rcases tf (A.zeq x1 6) with c44 | c44
      ·replace h := cT c44 h
       refine zt rfl (by first | rfl | simp only [c6, c15, c24, c32, c41, c44, zqa, zqb, zqc, zqd]) ?_
       refine zs ?_
       obtain ⟨v51, hvK52, h⟩ := bindS h
       refine AWp.cutN [4] [] 0 (lb rfl) (fun τ => τ = { env := [(4, (.d (.bool v51)))], heap := [], n := 112 }) ?_ ?_
       ·skip
        refine zn ?_
        obtain ⟨r46, e45, hvK52⟩ := bindS hvK52
        refine AOps.cc hT hA { tk := [95] } (by (repeat (cbv; simp only [c6, c15, c24, c32, c41, c44])); try cbv) (lb rfl) (C138w hA e45) rfl (.inl rfl) rfl rfl rfl (lb rfl) rfl rfl ?_
        rcases tf r46 with c47 | c47
        ·replace hvK52 := cT c47 hvK52
         obtain ⟨r49, e48, hvK52⟩ := bindS hvK52
         refine AOps.cc hT hA { tk := [95] } (by (repeat (cbv; simp only [c6, c15, c24, c32, c41, c44, c47])); try cbv) (lb rfl) (C47w hA e48) rfl (.inl rfl) rfl rfl rfl (lb rfl) rfl rfl ?_
         rcases tf r49 with c50 | c50
         ·replace hvK52 := cT c50 hvK52
          refine AOps.cd hT hA { tk := [95] } (by (repeat (cbv; simp only [c6, c15, c24, c32, c41, c44, c47, c50])); try cbv) (lb rfl) ?_
          cases soI hvK52
          exact oNi ⟨rfl, (by first | (cbv; done) | ((repeat (cbv; simp only [c6, c15, c24, c32, c41, c44, c47, c50])); try cbv))⟩
         ·replace hvK52 := cF c50 hvK52
          refine AOps.cd hT hA { tk := [95] } (by (repeat (cbv; simp only [c6, c15, c24, c32, c41, c44, c47, c50])); try cbv) (lb rfl) ?_
          cases soI hvK52
          exact oNi ⟨rfl, (by first | (cbv; done) | ((repeat (cbv; simp only [c6, c15, c24, c32, c41, c44, c47, c50])); try cbv))⟩
        ·replace hvK52 := cF c47 hvK52
         refine AOps.cd hT hA { tk := [95] } (by (repeat (cbv; simp only [c6, c15, c24, c32, c41, c44, c47])); try cbv) (lb rfl) ?_
         cases soI hvK52
         exact oNi ⟨rfl, (by first | (cbv; done) | ((repeat (cbv; simp only [c6, c15, c24, c32, c41, c44, c47])); try cbv))⟩
       ·rintro _ rfl
        refine nT ?_
        refine zr ?_
        refine rB ?_
        refine rT ?_
        cases soI h
        exact ⟨rfl, rfl, rfl, lb rfl, _, rfl⟩
      ·replace h := cF c44 h
       refine zf rfl (by first | rfl | simp only [c6, c15, c24, c32, c41, c44, zqa, zqb, zqc, zqd]) ?_
       refine zs ?_
       refine zg hT hA {} (by (repeat (cbv; simp only [c6, c15, c24, c32, c41, c44])); try cbv) (lb rfl) ?_
       refine nT ?_
       rcases tf (A.zeq x1 7) with c53 | c53
       ·replace h := cT c53 h
        refine zt rfl (by first | rfl | simp only [c6, c15, c24, c32, c41, c44, c53, zqa, zqb, zqc, zqd]) ?_
        refine zs ?_
        obtain ⟨v58, hvK59, h⟩ := bindS h
        refine AWp.cutN [4] [] 0 (lb rfl) (fun τ => τ = { env := [(4, (.d (.bool v58)))], heap := [], n := 112 }) ?_ ?_
        ·skip
         refine zn ?_
         obtain ⟨r55, e54, hvK59⟩ := bindS hvK59
         refine AOps.cc hT hA { tk := [111] } (by (repeat (cbv; simp only [c6, c15, c24, c32, c41, c44, c53])); try cbv) (lb rfl) (C138w hA e54) rfl (.inl rfl) rfl rfl rfl (lb rfl) rfl rfl ?_
         rcases tf r55 with c56 | c56
         ·replace hvK59 := cT c56 hvK59
          rcases tf (A.zeq x3 0) with c57 | c57
          ·replace hvK59 := cT c57 hvK59
           refine AOps.cd hT hA { tk := [111] } (by (repeat (cbv; simp only [c6, c15, c24, c32, c41, c44, c53, c56, c57])); try cbv) (lb rfl) ?_
           cases soI hvK59
           exact oNi ⟨rfl, (by first | (cbv; done) | ((repeat (cbv; simp only [c6, c15, c24, c32, c41, c44, c53, c56, c57])); try cbv))⟩
          ·replace hvK59 := cF c57 hvK59
           refine AOps.cd hT hA { tk := [111] } (by (repeat (cbv; simp only [c6, c15, c24, c32, c41, c44, c53, c56, c57])); try cbv) (lb rfl) ?_
           cases soI hvK59
           exact oNi ⟨rfl, (by first | (cbv; done) | ((repeat (cbv; simp only [c6, c15, c24, c32, c41, c44, c53, c56, c57])); try cbv))⟩
         ·replace hvK59 := cF c56 hvK59
          refine AOps.cd hT hA { tk := [111] } (by (repeat (cbv; simp only [c6, c15, c24, c32, c41, c44, c53, c56])); try cbv) (lb rfl) ?_
          cases soI hvK59
          exact oNi ⟨rfl, (by first | (cbv; done) | ((repeat (cbv; simp only [c6, c15, c24, c32, c41, c44, c53, c56])); try cbv))⟩
        ·rintro _ rfl
         refine nT ?_
         refine zr ?_
         refine rB ?_
         refine rT ?_
         cases soI h
         exact ⟨rfl, rfl, rfl, lb rfl, _, rfl⟩
       ·replace h := cF c53 h
        refine zf rfl (by first | rfl | simp only [c6, c15, c24, c32, c41, c44, c53, zqa, zqb, zqc, zqd]) ?_
        refine zk ?_
        refine nB ?_
        refine nT (zs ?_)
        refine zg hT hA {} (by (repeat (cbv; simp only [c6, c15, c24, c32, c41, c44, c53])); try cbv) (lb rfl) ?_
        refine nT ?_
        refine zr ?_
        cases soI h
        exact ⟨rfl, rfl, rfl, lb rfl, _, rfl⟩

theorem C109w {A : Ar} (hA : A = Ar.std) {x1 x2 x3 x4 : Int} {x5 : List D} {v8 : Bool} (h : C109 A x1 x2 x3 x4 x5 = some v8) : ACall Try.prog 109 [(.d (.agg [(.int .i64 x1), (.int .i64 x2), (.int .i64 x3), (.int .i64 x4)])), (.iptr [(.list 4 x5)])] [] (.d (.bool v8)) [] := by
 unfold C109 at h
 refine ACall.enter hT (fn := Try.f109) Try.func109 rfl (by decide) (by simp [Try.f109]) rfl rfl rfl rfl (lb rfl) ?_
 refine zs ?_
 refine zg hT hA {} (by cbv) (lb rfl) ?_
 refine nT (zs (zn ?_))
 obtain ⟨r7, e6, h⟩ := bindS h
 refine AOps.cc hT hA { tk := [8] } (by cbv) (lb rfl) (C110w hA e6) rfl (.inl rfl) rfl rfl rfl (lb rfl) rfl rfl ?_
 refine AOps.cd hT hA { tk := [8] } (by cbv) (lb rfl) ?_
 refine nT ?_
 refine zr ?_
 cases soI h
 exact ⟨rfl, rfl, rfl, lb rfl, _, rfl⟩

theorem C137w {A : Ar} (hA : A = Ar.std) {x1 x2 : List D} {v28 : Int} (h : C137 A x1 x2 = some v28) : ACall Try.prog 137 [(zl 4 x1), (.func 109 [] [(.iptr [(.list 4 x2)])])] [] (zi v28) [] := by
 unfold C137 at h
 refine ACall.enter hT (fn := Try.f137) Try.func137 rfl (by decide) (by simp [Try.f137]) rfl rfl rfl rfl (lb rfl) ?_
 refine zs ?_
 refine zg hT hA {} (by cbv) (lb rfl) ?_
 refine nT (zs (zs ?_))
 refine zg hT hA {} (by cbv) (lb rfl) ?_
 refine nT (zb ?_)
 obtain ⟨xK27, hxK27, K27, hK27, hkK27⟩ := bindK h
 refine AWp.cutX 0 [] [] 0 (lb rfl) (fun τ => K27 (.inl ()) = some v28 ∧ τ = { env := [], heap := [], n := 19 }) ?_ ?_
 ·skip
  refine AWp.iter hxK27 [0, 1, 7, 8] [] 0 (lb rfl) (fun v14 => { env := [(0, (zl 4 x1)), (1, (.func 109 [] [(.iptr [(.list 4 x2)])])), (7, (.d (.int .i64 (A.len x1)))), (8, (zi v14))], heap := [], n := 19 }) ⟨rfl, (by cbv)⟩ ?_
  rintro v14 eK27 hsK27
  dsimp only [C137L0] at hsK27
  refine zs ?_
  refine zg hT hA {} (by cbv) (lb rfl) ?_
  refine nT (zs ?_)
  rcases tf (A.zlt v14 (A.len x1)) with c15 | c15
  ·replace hsK27 := cT c15 hsK27
   refine zt rfl (by first | rfl | simp only [c15, zqa, zqb, zqc, zqd]) ?_
   refine zk ?_
   refine nT (zs (zb (zs ?_)))
   refine zg hT hA { tk := [8, 10] } (by (repeat (cbv; simp only [c15])); try cbv) (lb rfl) ?_
   refine nT (zs (zn ?_))
   obtain ⟨⟨a16, a17, a18, a19⟩, e20, hsK27⟩ := bindS hsK27
   obtain ⟨f21, f22⟩ := gtI e20
   obtain ⟨r24, e23, hsK27⟩ := bindS hsK27
   refine AOps.cc hT hA {} (by (repeat (cbv; simp only [c15, f21, f22])); try cbv) (lb rfl) (C109w hA e23) rfl (.inl rfl) rfl rfl rfl (lb rfl) rfl rfl ?_
   refine AOps.cd hT hA {} (by (repeat (cbv; simp only [c15, f21, f22])); try cbv) (lb rfl) ?_
   refine nT ?_
   rcases tf r24 with c25 | c25
   ·replace hsK27 := cT c25 hsK27
    refine zt rfl (by first | rfl | simp only [c15, c25, zqa, zqb, zqc, zqd]) ?_
    refine zs ?_
    refine zg hT hA { tk := [5, 17] } (by (repeat (cbv; simp only [c15, c25])); try cbv) (lb rfl) ?_
    refine nT ?_
    refine zr ?_
    refine rB ?_
    refine rT ?_
    refine rT ?_
    refine exL hsK27 fun hx => ?_
    subst hx
    refine oxR ?_
    replace hkK27 := (eR (hK27 _ hkK27))
    refine rB ?_
    refine rT ?_
    cases soI hkK27
    exact ⟨rfl, rfl, rfl, lb rfl, _, rfl⟩
   ·replace hsK27 := cF c25 hsK27
    refine zf rfl (by first | rfl | simp only [c15, c25, zqa, zqb, zqc, zqd]) ?_
    refine zk ?_
    refine nB ?_
    refine nT ?_
    refine zg hT hA { tk := [18] } (by (repeat (cbv; simp only [c15, c25])); try cbv) (lb rfl) ?_
    exact nT ⟨_, (soI hsK27).symm, rfl, (by first | (cbv; done) | ((repeat (cbv; simp only [c15, c25])); try cbv))⟩
  ·replace hsK27 := cF c15 hsK27
   refine zf rfl (by first | rfl | simp only [c15, zqa, zqb, zqc, zqd]) ?_
   refine AWp.exit ?_
   refine xT ?_
   refine xT ?_
   refine exL hsK27 fun hx => ?_
   subst hx
   exact oxI ⟨rfl, hkK27, (by first | (cbv; done) | ((repeat (cbv; simp only [c15])); try cbv))⟩
 ·rintro _ ⟨hkK27, rfl⟩
  have h := (eL (hK27 _ hkK27))
  refine xB ?_
  refine nT (zs ?_)
  refine zg hT hA {} (by cbv) (lb rfl) ?_
  refine nT ?_
  refine zr ?_
  cases soI h
  exact ⟨rfl, rfl, rfl, lb rfl, _, rfl⟩

theorem C108w {A : Ar} (hA : A = Ar.std) {x1 x2 : List D} {v5 : Bool} (h : C108 A x1 x2 = some v5) : ACall Try.prog 108 [(zl 4 x1), (.func 109 [] [(.iptr [(.list 4 x2)])])] [] (.d (.bool v5)) [] := by
 unfold C108 at h
 refine ACall.enter hT (fn := Try.f108) Try.func108 rfl (by decide) (by simp [Try.f108]) rfl rfl rfl rfl (lb rfl) ?_
 refine zs ?_
 refine zg hT hA {} (by cbv) (lb rfl) ?_
 refine nT (zs (zn ?_))
 obtain ⟨r4, e3, h⟩ := bindS h
 refine AOps.cc hT hA { tk := [8] } (by cbv) (lb rfl) (C137w hA e3) rfl (.inl rfl) rfl rfl rfl (lb rfl) rfl rfl ?_
 refine AOps.cd hT hA { tk := [8] } (by cbv) (lb rfl) ?_
 refine nT ?_
 refine zr ?_
 cases soI h
 exact ⟨rfl, rfl, rfl, lb rfl, _, rfl⟩

theorem C50w {A : Ar} (hA : A = Ar.std) {x1 : List D} {v17 : Bool} (h : C50 A x1 = some v17) : ACall Try.prog 50 [(zl 4 x1)] [] (.d (.bool v17)) [] := by
 unfold C50 at h
 refine ACall.enter hT (fn := Try.f50) Try.func50 rfl (by decide) (by simp [Try.f50]) rfl rfl rfl rfl (lb rfl) ?_
 refine zs ?_
 refine zg hT hA {} (by cbv) (lb rfl) ?_
 refine nT ?_
 refine AWp.freezeBox 1 [(.list 4 x1)] rfl rfl ?_
 refine zs ?_
 obtain ⟨v15, hvK16, h⟩ := bindS h
 refine AWp.cutN [2] [] 0 (lb rfl) (fun τ => τ = { env := [(2, (.d (.bool v15)))], heap := [], n := 22 }) ?_ ?_
 ·skip
  refine zn ?_
  obtain ⟨r3, e2, hvK16⟩ := bindS hvK16
  refine AOps.cc hT hA { tk := [21] } (by cbv) (lb rfl) (C47w hA e2) rfl (.inl rfl) rfl rfl rfl (lb rfl) rfl rfl ?_
  rcases tf r3 with c4 | c4
  ·replace hvK16 := cT c4 hvK16
   obtain ⟨r6, e5, hvK16⟩ := bindS hvK16
   refine AOps.cc hT hA { tk := [21] } (by (repeat (cbv; simp only [c4])); try cbv) (lb rfl) (C108w hA e5) rfl (.inl rfl) rfl rfl rfl (lb rfl) rfl rfl ?_
   rcases tf r6 with c7 | c7
   ·replace hvK16 := cT c7 hvK16
    refine AOps.cd hT hA { tk := [21] } (by (repeat (cbv; simp only [c4, c7])); try cbv) (lb rfl) ?_
    cases soI hvK16
    exact oNi ⟨rfl, (by first | (cbv; done) | ((repeat (cbv; simp only [c4, c7])); try cbv))⟩
   ·replace hvK16 := cF c7 hvK16
    obtain ⟨⟨a8, a9, a10, a11⟩, e12, hvK16⟩ := bindS hvK16
    obtain ⟨f13, f14⟩ := gtI e12
    refine AOps.cd hT hA { tk := [21] } (by (repeat (cbv; simp only [c4, c7, f13, f14])); try cbv) (lb rfl) ?_
    cases soI hvK16
    exact oNi ⟨rfl, (by first | (cbv; done) | ((repeat (cbv; simp only [c4, c7])); try cbv))⟩
  ·replace hvK16 := cF c4 hvK16
   refine AOps.cd hT hA { tk := [21] } (by (repeat (cbv; simp only [c4])); try cbv) (lb rfl) ?_
   cases soI hvK16
   exact oNi ⟨rfl, (by first | (cbv; done) | ((repeat (cbv; simp only [c4])); try cbv))⟩
 ·rintro _ rfl
  refine nT ?_
  refine zr ?_
  cases soI h
  exact ⟨rfl, rfl, rfl, lb rfl, _, rfl⟩

theorem C49w {A : Ar} (hA : A = Ar.std) {x1 : List D} {v4 : Bool} (h : C49 A x1 = some v4) : ACall Try.prog 49 [(zl 4 x1)] [] (.d (.bool v4)) [] := by
 unfold C49 at h
 refine ACall.enter hT (fn := Try.f49) Try.func49 rfl (by decide) (by simp [Try.f49]) rfl rfl rfl rfl (lb rfl) ?_
 refine zs ?_
 refine zg hT hA {} (by cbv) (lb rfl) ?_
 refine nT (zs (zn ?_))
 obtain ⟨r3, e2, h⟩ := bindS h
 refine AOps.cc hT hA { tk := [5] } (by cbv) (lb rfl) (C50w hA e2) rfl (.inl rfl) rfl rfl rfl (lb rfl) rfl rfl ?_
 refine AOps.cd hT hA { tk := [5] } (by cbv) (lb rfl) ?_
 refine nT ?_
 refine zr ?_
 cases soI h
 exact ⟨rfl, rfl, rfl, lb rfl, _, rfl⟩

theorem C107w {A : Ar} (hA : A = Ar.std) {x1 : List D} {v21 : Int} (h : C107 A x1 = some v21) : ACall Try.prog 107 [(zl 1 x1), (.func 49 [] [])] [] (zi v21) [] := by
 unfold C107 at h
 refine ACall.enter hT (fn := Try.f107) Try.func107 rfl (by decide) (by simp [Try.f107]) rfl rfl rfl rfl (lb rfl) ?_
 refine zs ?_
 refine zg hT hA {} (by cbv) (lb rfl) ?_
 refine nT (zs (zs ?_))
 refine zg hT hA {} (by cbv) (lb rfl) ?_
 refine nT (zb ?_)
 obtain ⟨xK20, hxK20, K20, hK20, hkK20⟩ := bindK h
 refine AWp.cutX 0 [] [] 0 (lb rfl) (fun τ => K20 (.inl ()) = some v21 ∧ τ = { env := [], heap := [], n := 19 }) ?_ ?_
 ·skip
  refine AWp.iter hxK20 [0, 1, 7, 8] [] 0 (lb rfl) (fun v10 => { env := [(0, (zl 1 x1)), (1, (.func 49 [] [])), (7, (.d (.int .i64 (A.len x1)))), (8, (zi v10))], heap := [], n := 19 }) ⟨rfl, (by cbv)⟩ ?_
  rintro v10 eK20 hsK20
  dsimp only [C107L0] at hsK20
  refine zs ?_
  refine zg hT hA {} (by cbv) (lb rfl) ?_
  refine nT (zs ?_)
  rcases tf (A.zlt v10 (A.len x1)) with c11 | c11
  ·replace hsK20 := cT c11 hsK20
   refine zt rfl (by first | rfl | simp only [c11, zqa, zqb, zqc, zqd]) ?_
   refine zk ?_
   refine nT (zs (zb (zs ?_)))
   refine zg hT hA { tk := [8, 10] } (by (repeat (cbv; simp only [c11])); try cbv) (lb rfl) ?_
   refine nT (zs (zn ?_))
   obtain ⟨a12, e13, hsK20⟩ := bindS hsK20
   obtain ⟨f14, f15⟩ := gtI e13
   obtain ⟨r17, e16, hsK20⟩ := bindS hsK20
   refine AOps.cc hT hA {} (by (repeat (cbv; simp only [c11, f14, f15])); try cbv) (lb rfl) (C49w hA e16) rfl (.inl rfl) rfl rfl rfl (lb rfl) rfl rfl ?_
   refine AOps.cd hT hA {} (by (repeat (cbv; simp only [c11, f14, f15])); try cbv) (lb rfl) ?_
   refine nT ?_
   rcases tf r17 with c18 | c18
   ·replace hsK20 := cT c18 hsK20
    refine zt rfl (by first | rfl | simp only [c11, c18, zqa, zqb, zqc, zqd]) ?_
    refine zs ?_
    refine zg hT hA { tk := [5, 17] } (by (repeat (cbv; simp only [c11, c18])); try cbv) (lb rfl) ?_
    refine nT ?_
    refine zr ?_
    refine rB ?_
    refine rT ?_
    refine rT ?_
    refine exL hsK20 fun hx => ?_
    subst hx
    refine oxR ?_
    replace hkK20 := (eR (hK20 _ hkK20))
    refine rB ?_
    refine rT ?_
    cases soI hkK20
    exact ⟨rfl, rfl, rfl, lb rfl, _, rfl⟩
   ·replace hsK20 := cF c18 hsK20
    refine zf rfl (by first | rfl | simp only [c11, c18, zqa, zqb, zqc, zqd]) ?_
    refine zk ?_
    refine nB ?_
    refine nT ?_
    refine zg hT hA { tk := [18] } (by (repeat (cbv; simp only [c11, c18])); try cbv) (lb rfl) ?_
    exact nT ⟨_, (soI hsK20).symm, rfl, (by first | (cbv; done) | ((repeat (cbv; simp only [c11, c18])); try cbv))⟩
  ·replace hsK20 := cF c11 hsK20
   refine zf rfl (by first | rfl | simp only [c11, zqa, zqb, zqc, zqd]) ?_
   refine AWp.exit ?_
   refine xT ?_
   refine xT ?_
   refine exL hsK20 fun hx => ?_
   subst hx
   exact oxI ⟨rfl, hkK20, (by first | (cbv; done) | ((repeat (cbv; simp only [c11])); try cbv))⟩
 ·rintro _ ⟨hkK20, rfl⟩
  have h := (eL (hK20 _ hkK20))
  refine xB ?_
  refine nT (zs ?_)
  refine zg hT hA {} (by cbv) (lb rfl) ?_
  refine nT ?_
  refine zr ?_
  cases soI h
  exact ⟨rfl, rfl, rfl, lb rfl, _, rfl⟩

theorem C48w {A : Ar} (hA : A = Ar.std) {x1 : List D} {v4 : Bool} (h : C48 A x1 = some v4) : ACall Try.prog 48 [(zl 1 x1), (.func 49 [] [])] [] (.d (.bool v4)) [] := by
 unfold C48 at h
 refine ACall.enter hT (fn := Try.f48) Try.func48 rfl (by decide) (by simp [Try.f48]) rfl rfl rfl rfl (lb rfl) ?_
 refine zs ?_
 refine zg hT hA {} (by cbv) (lb rfl) ?_
 refine nT (zs (zn ?_))
 obtain ⟨r3, e2, h⟩ := bindS h
 refine AOps.cc hT hA { tk := [8] } (by cbv) (lb rfl) (C107w hA e2) rfl (.inl rfl) rfl rfl rfl (lb rfl) rfl rfl ?_
 refine AOps.cd hT hA { tk := [8] } (by cbv) (lb rfl) ?_
 refine nT ?_
 refine zr ?_
 cases soI h
 exact ⟨rfl, rfl, rfl, lb rfl, _, rfl⟩

theorem C15w {A : Ar} (hA : A = Ar.std) {x1 : List D} {v9 : Bool} (h : C15 A x1 = some v9) : ACall Try.prog 15 [(zl 1 x1)] [] (.d (.bool v9)) [] := by
 unfold C15 at h
 refine ACall.enter hT (fn := Try.f15) Try.func15 rfl (by decide) (by simp [Try.f15]) rfl rfl rfl rfl (lb rfl) ?_
 refine zs ?_
 refine zg hT hA {} (by cbv) (lb rfl) ?_
 refine nT (zs ?_)
 obtain ⟨v7, hvK8, h⟩ := bindS h
 refine AWp.cutN [2] [] 0 (lb rfl) (fun τ => τ = { env := [(2, (.d (.bool v7)))], heap := [], n := 11 }) ?_ ?_
 ·skip
  refine zn ?_
  obtain ⟨r3, e2, hvK8⟩ := bindS hvK8
  refine AOps.cc hT hA { tk := [10] } (by cbv) (lb rfl) (C47w hA e2) rfl (.inl rfl) rfl rfl rfl (lb rfl) rfl rfl ?_
  rcases tf r3 with c4 | c4
  ·replace hvK8 := cT c4 hvK8
   obtain ⟨r6, e5, hvK8⟩ := bindS hvK8
   refine AOps.cc hT hA { tk := [10] } (by (repeat (cbv; simp only [c4])); try cbv) (lb rfl) (C48w hA e5) rfl (.inl rfl) rfl rfl rfl (lb rfl) rfl rfl ?_
   refine AOps.cd hT hA { tk := [10] } (by (repeat (cbv; simp only [c4])); try cbv) (lb rfl) ?_
   cases soI hvK8
   exact oNi ⟨rfl, (by first | (cbv; done) | ((repeat (cbv; simp only [c4])); try cbv))⟩
  ·replace hvK8 := cF c4 hvK8
   refine AOps.cd hT hA { tk := [10] } (by (repeat (cbv; simp only [c4])); try cbv) (lb rfl) ?_
   cases soI hvK8
   exact oNi ⟨rfl, (by first | (cbv; done) | ((repeat (cbv; simp only [c4])); try cbv))⟩
 ·rintro _ rfl
  refine nT ?_
  refine zr ?_
  cases soI h
  exact ⟨rfl, rfl, rfl, lb rfl, _, rfl⟩

theorem C136w {A : Ar} (hA : A = Ar.std) {x1 : Int} {x2 : List D} {v5 : Bool} (h : C136 A x1 x2 = some v5) : ACall Try.prog 136 [(zi x1), (.iptr [(.list 1 x2)])] [] (.d (.bool v5)) [] := by
 unfold C136 at h
 refine ACall.enter hT (fn := Try.f136) Try.func136 rfl (by decide) (by simp [Try.f136]) rfl rfl rfl rfl (lb rfl) ?_
 refine zs ?_
 refine zg hT hA {} (by cbv) (lb rfl) ?_
 refine nT (zs (zn ?_))
 obtain ⟨r4, e3, h⟩ := bindS h
 refine AOps.cc hT hA { tk := [9] } (by cbv) (lb rfl) (C47w hA e3) rfl (.inl rfl) rfl rfl rfl (lb rfl) rfl rfl ?_
 refine AOps.cd hT hA { tk := [9] } (by cbv) (lb rfl) ?_
 refine nT ?_
 refine zr ?_
 cases soI h
 exact ⟨rfl, rfl, rfl, lb rfl, _, rfl⟩

theorem C162aw {A : Ar} (hA : A = Ar.std) {x1 x2 : List D} {v22 : Int} (h : C162a A x1 x2 = some v22) : ACall Try.prog 162 [(zl 1 x1), (.func 136 [] [(.iptr [(.list 1 x2)])])] [] (zi v22) [] := by
 unfold C162a at h
 refine ACall.enter hT (fn := Try.f162) Try.func162 rfl (by decide) (by simp [Try.f162]) rfl rfl rfl rfl (lb rfl) ?_
 refine zs ?_
 refine zg hT hA {} (by cbv) (lb rfl) ?_
 refine nT (zs (zs ?_))
 refine zg hT hA {} (by cbv) (lb rfl) ?_
 refine nT (zb ?_)
 obtain ⟨xK21, hxK21, K21, hK21, hkK21⟩ := bindK h
 refine AWp.cutX 0 [] [] 0 (lb rfl) (fun τ => K21 (.inl ()) = some v22 ∧ τ = { env := [], heap := [], n := 19 }) ?_ ?_
 ·skip
  refine AWp.iter hxK21 [0, 1, 7, 8] [] 0 (lb rfl) (fun v11 => { env := [(0, (zl 1 x1)), (1, (.func 136 [] [(.iptr [(.list 1 x2)])])), (7, (.d (.int .i64 (A.len x1)))), (8, (zi v11))], heap := [], n := 19 }) ⟨rfl, (by cbv)⟩ ?_
  rintro v11 eK21 hsK21
  dsimp only [C162aL0] at hsK21
  refine zs ?_
  refine zg hT hA {} (by cbv) (lb rfl) ?_
  refine nT (zs ?_)
  rcases tf (A.zlt v11 (A.len x1)) with c12 | c12
  ·replace hsK21 := cT c12 hsK21
   refine zt rfl (by first | rfl | simp only [c12, zqa, zqb, zqc, zqd]) ?_
   refine zk ?_
   refine nT (zs (zb (zs ?_)))
   refine zg hT hA { tk := [8, 10] } (by (repeat (cbv; simp only [c12])); try cbv) (lb rfl) ?_
   refine nT (zs (zn ?_))
   obtain ⟨a13, e14, hsK21⟩ := bindS hsK21
   obtain ⟨f15, f16⟩ := gtI e14
   obtain ⟨r18, e17, hsK21⟩ := bindS hsK21
   refine AOps.cc hT hA {} (by (repeat (cbv; simp only [c12, f15, f16])); try cbv) (lb rfl) (C136w hA e17) rfl (.inl rfl) rfl rfl rfl (lb rfl) rfl rfl ?_
   refine AOps.cd hT hA {} (by (repeat (cbv; simp only [c12, f15, f16])); try cbv) (lb rfl) ?_
   refine nT ?_
   rcases tf r18 with c19 | c19
   ·replace hsK21 := cT c19 hsK21
    refine zt rfl (by first | rfl | simp only [c12, c19, zqa, zqb, zqc, zqd]) ?_
    refine zs ?_
    refine zg hT hA { tk := [5, 17] } (by (repeat (cbv; simp only [c12, c19])); try cbv) (lb rfl) ?_
    refine nT ?_
    refine zr ?_
    refine rB ?_
    refine rT ?_
    refine rT ?_
    refine exL hsK21 fun hx => ?_
    subst hx
    refine oxR ?_
    replace hkK21 := (eR (hK21 _ hkK21))
    refine rB ?_
    refine rT ?_
    cases soI hkK21
    exact ⟨rfl, rfl, rfl, lb rfl, _, rfl⟩
   ·replace hsK21 := cF c19 hsK21
    refine zf rfl (by first | rfl | simp only [c12, c19, zqa, zqb, zqc, zqd]) ?_
    refine zk ?_
    refine nB ?_
    refine nT ?_
    refine zg hT hA { tk := [18] } (by (repeat (cbv; simp only [c12, c19])); try cbv) (lb rfl) ?_
    exact nT ⟨_, (soI hsK21).symm, rfl, (by first | (cbv; done) | ((repeat (cbv; simp only [c12, c19])); try cbv))⟩
  ·replace hsK21 := cF c12 hsK21
   refine zf rfl (by first | rfl | simp only [c12, zqa, zqb, zqc, zqd]) ?_
   refine AWp.exit ?_
   refine xT ?_
   refine xT ?_
   refine exL hsK21 fun hx => ?_
   subst hx
   exact oxI ⟨rfl, hkK21, (by first | (cbv; done) | ((repeat (cbv; simp only [c12])); try cbv))⟩
 ·rintro _ ⟨hkK21, rfl⟩
  have h := (eL (hK21 _ hkK21))
  refine xB ?_
  refine nT (zs ?_)
  refine zg hT hA {} (by cbv) (lb rfl) ?_
  refine nT ?_
  refine zr ?_
  cases soI h
  exact ⟨rfl, rfl, rfl, lb rfl, _, rfl⟩

theorem C135aw {A : Ar} (hA : A = Ar.std) {x1 x2 : List D} {v5 : Bool} (h : C135a A x1 x2 = some v5) : ACall Try.prog 135 [(zl 1 x1), (.func 136 [] [(.iptr [(.list 1 x2)])])] [] (.d (.bool v5)) [] := by
 unfold C135a at h
 refine ACall.enter hT (fn := Try.f135) Try.func135 rfl (by decide) (by simp [Try.f135]) rfl rfl rfl rfl (lb rfl) ?_
 refine zs ?_
 refine zg hT hA {} (by cbv) (lb rfl) ?_
 refine nT (zs (zn ?_))
 obtain ⟨r4, e3, h⟩ := bindS h
 refine AOps.cc hT hA { tk := [8] } (by cbv) (lb rfl) (C162aw hA e3) rfl (.inl rfl) rfl rfl rfl (lb rfl) rfl rfl ?_
 refine AOps.cd hT hA { tk := [8] } (by cbv) (lb rfl) ?_
 refine nT ?_
 refine zr ?_
 cases soI h
 exact ⟨rfl, rfl, rfl, lb rfl, _, rfl⟩

theorem C103w {A : Ar} (hA : A = Ar.std) {x1 x2 : List D} {v8 : Bool} (h : C103 A x1 x2 = some v8) : ACall Try.prog 103 [(zl 1 x1), (zl 1 x2)] [] (.d (.bool v8)) [] := by
 unfold C103 at h
 refine ACall.enter hT (fn := Try.f103) Try.func103 rfl (by decide) (by simp [Try.f103]) rfl rfl rfl rfl (lb rfl) ?_
 refine zs ?_
 refine zg hT hA {} (by cbv) (lb rfl) ?_
 refine nT ?_
 refine AWp.freezeBox 2 [(.list 1 x1)] rfl rfl ?_
 refine zs ?_
 obtain ⟨v6, hvK7, h⟩ := bindS h
 refine AWp.cutN [4] [] 0 (lb rfl) (fun τ => τ = { env := [(4, (.d (.bool v6)))], heap := [], n := 14 }) ?_ ?_
 ·skip
  refine zn ?_
  rcases tf (A.zle (A.len x2) 3) with c3 | c3
  ·replace hvK7 := cT c3 hvK7
   obtain ⟨r5, e4, hvK7⟩ := bindS hvK7
   refine AOps.cc hT hA { tk := [13] } (by (repeat (cbv; simp only [c3])); try cbv) (lb rfl) (C135aw hA e4) rfl (.inl rfl) rfl rfl rfl (lb rfl) rfl rfl ?_
   refine AOps.cd hT hA { tk := [13] } (by (repeat (cbv; simp only [c3])); try cbv) (lb rfl) ?_
   cases soI hvK7
   exact oNi ⟨rfl, (by first | (cbv; done) | ((repeat (cbv; simp only [c3])); try cbv))⟩
  ·replace hvK7 := cF c3 hvK7
   refine AOps.cd hT hA { tk := [13] } (by (repeat (cbv; simp only [c3])); try cbv) (lb rfl) ?_
   cases soI hvK7
   exact oNi ⟨rfl, (by first | (cbv; done) | ((repeat (cbv; simp only [c3])); try cbv))⟩
 ·rintro _ rfl
  refine nT ?_
  refine zr ?_
  cases soI h
  exact ⟨rfl, rfl, rfl, lb rfl, _, rfl⟩

theorem C102w {A : Ar} (hA : A = Ar.std) {x1 x2 : List D} {v5 : Bool} (h : C102 A x1 x2 = some v5) : ACall Try.prog 102 [(zl 1 x1), (.iptr [(.list 1 x2)])] [] (.d (.bool v5)) [] := by
 unfold C102 at h
 refine ACall.enter hT (fn := Try.f102) Try.func102 rfl (by decide) (by simp [Try.f102]) rfl rfl rfl rfl (lb rfl) ?_
 refine zs ?_
 refine zg hT hA {} (by cbv) (lb rfl) ?_
 refine nT (zs (zn ?_))
 obtain ⟨r4, e3, h⟩ := bindS h
 refine AOps.cc hT hA { tk := [7] } (by cbv) (lb rfl) (C103w hA e3) rfl (.inl rfl) rfl rfl rfl (lb rfl) rfl rfl ?_
 refine AOps.cd hT hA { tk := [7] } (by cbv) (lb rfl) ?_
 refine nT ?_
 refine zr ?_
 cases soI h
 exact ⟨rfl, rfl, rfl, lb rfl, _, rfl⟩

theorem C134w {A : Ar} (hA : A = Ar.std) {x1 x2 : List D} {v22 : Int} (h : C134 A x1 x2 = some v22) : ACall Try.prog 134 [(zl 1 x1), (.func 102 [] [(.iptr [(.list 1 x2)])])] [] (zi v22) [] := by
 unfold C134 at h
 refine ACall.enter hT (fn := Try.f134) Try.func134 rfl (by decide) (by simp [Try.f134]) rfl rfl rfl rfl (lb rfl) ?_
 refine zs ?_
 refine zg hT hA {} (by cbv) (lb rfl) ?_
 refine nT (zs (zs ?_))
 refine zg hT hA {} (by cbv) (lb rfl) ?_
 refine nT (zb ?_)
 obtain ⟨xK21, hxK21, K21, hK21, hkK21⟩ := bindK h
 refine AWp.cutX 0 [] [] 0 (lb rfl) (fun τ => K21 (.inl ()) = some v22 ∧ τ = { env := [], heap := [], n := 19 }) ?_ ?_
 ·skip
  refine AWp.iter hxK21 [0, 1, 7, 8] [] 0 (lb rfl) (fun v11 => { env := [(0, (zl 1 x1)), (1, (.func 102 [] [(.iptr [(.list 1 x2)])])), (7, (.d (.int .i64 (A.len x1)))), (8, (zi v11))], heap := [], n := 19 }) ⟨rfl, (by cbv)⟩ ?_
  rintro v11 eK21 hsK21
  dsimp only [C134L0] at hsK21
  refine zs ?_
  refine zg hT hA {} (by cbv) (lb rfl) ?_
  refine nT (zs ?_)
  rcases tf (A.zlt v11 (A.len x1)) with c12 | c12
  ·replace hsK21 := cT c12 hsK21
   refine zt rfl (by first | rfl | simp only [c12, zqa, zqb, zqc, zqd]) ?_
   refine zk ?_
   refine nT (zs (zb (zs ?_)))
   refine zg hT hA { tk := [8, 10] } (by (repeat (cbv; simp only [c12])); try cbv) (lb rfl) ?_
   refine nT (zs (zn ?_))
   obtain ⟨a13, e14, hsK21⟩ := bindS hsK21
   obtain ⟨f15, f16⟩ := gtI e14
   obtain ⟨r18, e17, hsK21⟩ := bindS hsK21
   refine AOps.cc hT hA {} (by (repeat (cbv; simp only [c12, f15, f16])); try cbv) (lb rfl) (C102w hA e17) rfl (.inl rfl) rfl rfl rfl (lb rfl) rfl rfl ?_
   refine AOps.cd hT hA {} (by (repeat (cbv; simp only [c12, f15, f16])); try cbv) (lb rfl) ?_
   refine nT ?_
   rcases tf r18 with c19 | c19
   ·replace hsK21 := cT c19 hsK21
    refine zt rfl (by first | rfl | simp only [c12, c19, zqa, zqb, zqc, zqd]) ?_
    refine zs ?_
    refine zg hT hA { tk := [5, 17] } (by (repeat (cbv; simp only [c12, c19])); try cbv) (lb rfl) ?_
    refine nT ?_
    refine zr ?_
    refine rB ?_
    refine rT ?_
    refine rT ?_
    refine exL hsK21 fun hx => ?_
    subst hx
    refine oxR ?_
    replace hkK21 := (eR (hK21 _ hkK21))
    refine rB ?_
    refine rT ?_
    cases soI hkK21
    exact ⟨rfl, rfl, rfl, lb rfl, _, rfl⟩
   ·replace hsK21 := cF c19 hsK21
    refine zf rfl (by first | rfl | simp only [c12, c19, zqa, zqb, zqc, zqd]) ?_
    refine zk ?_
    refine nB ?_
    refine nT ?_
    refine zg hT hA { tk := [18] } (by (repeat (cbv; simp only [c12, c19])); try cbv) (lb rfl) ?_
    exact nT ⟨_, (soI hsK21).symm, rfl, (by first | (cbv; done) | ((repeat (cbv; simp only [c12, c19])); try cbv))⟩
  ·replace hsK21 := cF c12 hsK21
   refine zf rfl (by first | rfl | simp only [c12, zqa, zqb, zqc, zqd]) ?_
   refine AWp.exit ?_
   refine xT ?_
   refine xT ?_
   refine exL hsK21 fun hx => ?_
   subst hx
   exact oxI ⟨rfl, hkK21, (by first | (cbv; done) | ((repeat (cbv; simp only [c12])); try cbv))⟩
 ·rintro _ ⟨hkK21, rfl⟩
  have h := (eL (hK21 _ hkK21))
  refine xB ?_
  refine nT (zs ?_)
  refine zg hT hA {} (by cbv) (lb rfl) ?_
  refine nT ?_
  refine zr ?_
  cases soI h
  exact ⟨rfl, rfl, rfl, lb rfl, _, rfl⟩

theorem C101w {A : Ar} (hA : A = Ar.std) {x1 x2 : List D} {v5 : Bool} (h : C101 A x1 x2 = some v5) : ACall Try.prog 101 [(zl 1 x1), (.func 102 [] [(.iptr [(.list 1 x2)])])] [] (.d (.bool v5)) [] := by
 unfold C101 at h
 refine ACall.enter hT (fn := Try.f101) Try.func101 rfl (by decide) (by simp [Try.f101]) rfl rfl rfl rfl (lb rfl) ?_
 refine zs ?_
 refine zg hT hA {} (by cbv) (lb rfl) ?_
 refine nT (zs (zn ?_))
 obtain ⟨r4, e3, h⟩ := bindS h
 refine AOps.cc hT hA { tk := [8] } (by cbv) (lb rfl) (C134w hA e3) rfl (.inl rfl) rfl rfl rfl (lb rfl) rfl rfl ?_
 refine AOps.cd hT hA { tk := [8] } (by cbv) (lb rfl) ?_
 refine nT ?_
 refine zr ?_
 cases soI h
 exact ⟨rfl, rfl, rfl, lb rfl, _, rfl⟩

theorem C42w {A : Ar} (hA : A = Ar.std) {x1 x2 : List D} {v10 : Bool} (h : C42 A x1 x2 = some v10) : ACall Try.prog 42 [(zl 1 x1), (zl 1 x2)] [] (.d (.bool v10)) [] := by
 unfold C42 at h
 refine ACall.enter hT (fn := Try.f42) Try.func42 rfl (by decide) (by simp [Try.f42]) rfl rfl rfl rfl (lb rfl) ?_
 refine zs ?_
 refine zg hT hA {} (by cbv) (lb rfl) ?_
 refine nT ?_
 refine AWp.freezeBox 2 [(.list 1 x1)] rfl rfl ?_
 refine zs ?_
 obtain ⟨v8, hvK9, h⟩ := bindS h
 refine AWp.cutN [4] [] 0 (lb rfl) (fun τ => τ = { env := [(4, (.d (.bool v8)))], heap := [], n := 14 }) ?_ ?_
 ·skip
  refine zn ?_
  obtain ⟨r4, e3, hvK9⟩ := bindS hvK9
  refine AOps.cc hT hA { tk := [13] } (by cbv) (lb rfl) (C47w hA e3) rfl (.inl rfl) rfl rfl rfl (lb rfl) rfl rfl ?_
  rcases tf r4 with c5 | c5
  ·replace hvK9 := cT c5 hvK9
   obtain ⟨r7, e6, hvK9⟩ := bindS hvK9
   refine AOps.cc hT hA { tk := [13] } (by (repeat (cbv; simp only [c5])); try cbv) (lb rfl) (C101w hA e6) rfl (.inl rfl) rfl rfl rfl (lb rfl) rfl rfl ?_
   refine AOps.cd hT hA { tk := [13] } (by (repeat (cbv; simp only [c5])); try cbv) (lb rfl) ?_
   cases soI hvK9
   exact oNi ⟨rfl, (by first | (cbv; done) | ((repeat (cbv; simp only [c5])); try cbv))⟩
  ·replace hvK9 := cF c5 hvK9
   refine AOps.cd hT hA { tk := [13] } (by (repeat (cbv; simp only [c5])); try cbv) (lb rfl) ?_
   cases soI hvK9
   exact oNi ⟨rfl, (by first | (cbv; done) | ((repeat (cbv; simp only [c5])); try cbv))⟩
 ·rintro _ rfl
  refine nT ?_
  refine zr ?_
  cases soI h
  exact ⟨rfl, rfl, rfl, lb rfl, _, rfl⟩

theorem C89w {A : Ar} (hA : A = Ar.std) {x1 x2 : List D} {v9 : Int} (h : C89 A x1 x2 = some v9) : ACall Try.prog 89 [(zl 1 x1), (zl 1 x2)] [] (zi v9) [] := by
 unfold C89 at h
 refine ACall.enter hT (fn := Try.f89) Try.func89 rfl (by decide) (by simp [Try.f89]) rfl rfl rfl rfl (lb rfl) ?_
 refine zs ?_
 refine zg hT hA {} (by cbv) (lb rfl) ?_
 refine nT (zs (zb (zs (zn ?_))))
 obtain ⟨r4, e3, h⟩ := bindS h
 refine AOps.cc hT hA {} (by cbv) (lb rfl) (C15w hA e3) rfl (.inl rfl) rfl rfl rfl (lb rfl) rfl rfl ?_
 refine AOps.cd hT hA {} (by cbv) (lb rfl) ?_
 refine nT ?_
 rcases tf r4 with c5 | c5
 ·replace h := cT c5 h
  refine zf rfl (by first | rfl | simp only [c5, zqa, zqb, zqc, zqd]) ?_
  refine zs (zn ?_)
  obtain ⟨r7, e6, h⟩ := bindS h
  refine AOps.cc hT hA {} (by (repeat (cbv; simp only [c5])); try cbv) (lb rfl) (C42w hA e6) rfl (.inl rfl) rfl rfl rfl (lb rfl) rfl rfl ?_
  refine AOps.cd hT hA {} (by (repeat (cbv; simp only [c5])); try cbv) (lb rfl) ?_
  refine nT ?_
  rcases tf r7 with c8 | c8
  ·replace h := cT c8 h
   refine zf rfl (by first | rfl | simp only [c5, c8, zqa, zqb, zqc, zqd]) ?_
   refine zk ?_
   refine nB ?_
   refine nT (zs ?_)
   refine zg hT hA {} (by (repeat (cbv; simp only [c5, c8])); try cbv) (lb rfl) ?_
   refine nT ?_
   refine zr ?_
   cases soI h
   exact ⟨rfl, rfl, rfl, lb rfl, _, rfl⟩
  ·replace h := cF c8 h
   refine zt rfl (by first | rfl | simp only [c5, c8, zqa, zqb, zqc, zqd]) ?_
   refine zs ?_
   refine zg hT hA {} (by (repeat (cbv; simp only [c5, c8])); try cbv) (lb rfl) ?_
   refine nT ?_
   refine zr ?_
   refine rB ?_
   refine rT ?_
   cases soI h
   exact ⟨rfl, rfl, rfl, lb rfl, _, rfl⟩
 ·replace h := cF c5 h
  refine zt rfl (by first | rfl | simp only [c5, zqa, zqb, zqc, zqd]) ?_
  refine zs ?_
  refine zg hT hA {} (by (repeat (cbv; simp only [c5])); try cbv) (lb rfl) ?_
  refine nT ?_
  refine zr ?_
  refine rB ?_
  refine rT ?_
  cases soI h
  exact ⟨rfl, rfl, rfl, lb rfl, _, rfl⟩

theorem C69w {A : Ar} (hA : A = Ar.std) {x1 x2 v3 v4 : List D} (h : C69 A x1 x2 = some (v3, v4)) : ACall Try.prog 69 [(zl 1 x1), (zl 1 x2)] [] (.agg [(zl 1 v3), (zl 1 v4), (zi 0), (zi 0), (zi 0), (zi 0), (zi 0), (zi 0), (zi 0), (zi 0), (zi 0), (zi 0), (zi 0), (zi 0), (zi 0), (zi 0), (zi 0), (zi 0), (zi 0), (zi 0), (.gref 0 6), (.gref 3 1)]) [(.gro 6 []), .dead, .dead, (.gro 1 []), .dead, .dead] := by
 unfold C69 at h
 refine ACall.enter hT (fn := Try.f69) Try.func69 rfl (by decide) (by simp [Try.f69]) rfl rfl rfl rfl (lb rfl) ?_
 refine zs ?_
 refine zg hT hA { esc := [4] } (by cbv) (lb rfl) ?_
 refine nT ?_
 refine AWp.weak (Wk.settle 0 20 rfl rfl rfl) ?_
 refine AWp.weak (Wk.settle 0 21 rfl rfl rfl) ?_
 refine zs ?_
 refine zg hT hA { tk := [7], nl := [7] } (by cbv) (lb rfl) ?_
 refine nT ?_
 refine AWp.weak (Wk.settle 0 20 rfl rfl rfl) ?_
 refine AWp.weak (Wk.settle 0 21 rfl rfl rfl) ?_
 refine AWp.weak (Wk.ren [some 7, some 8, some 9, some 10, some 11, some 12, some 0] [4] rfl rfl) ?_
 refine zr ?_
 cases soI h
 exact ⟨rfl, rfl, rfl, lb rfl, _, rfl⟩

theorem C70w {A : Ar} (hA : A = Ar.std) {x1 : Int} {x2 x3 : List D} {x4 x5 x6 x7 x8 x9 x10 x11 x12 x13 x14 x15 x16 x17 x18 x19 x20 x21 : Int} {x22 x23 : List D} {v43 : Bool} (h : C70 A x1 x2 x3 x4 x5 x6 x7 x8 x9 x10 x11 x12 x13 x14 x15 x16 x17 x18 x19 x20 x21 x22 x23 = some v43) : ACall Try.prog 70 [(.ptr 0 0), (zi x1)] [(.cells [(zl 1 x2), (zl 1 x3), (zi x4), (zi x5), (zi x6), (zi x7), (zi x8), (zi x9), (zi x10), (zi x11), (zi x12), (zi x13), (zi x14), (zi x15), (zi x16), (zi x17), (zi x18), (zi x19), (zi x20), (zi x21), (.gref 1 6), (.gref 4 1)]), (.gro 6 x22), .dead, .dead, (.gro 1 x23), .dead, .dead] (.d (.bool v43)) [(.cells [(zl 1 x2), (zl 1 x3), (zi x4), (zi x5), (zi x6), (zi x7), (zi x8), (zi x9), (zi x10), (zi x11), (zi x12), (zi x13), (zi x14), (zi x15), (zi x16), (zi x17), (zi x18), (zi x19), (zi x20), (zi x21), (.gref 1 6), (.gref 4 1)]), (.gro 6 x22), .dead, .dead, (.gro 1 x23), .dead, .dead] := by
 unfold C70 at h
 refine ACall.enter hT (fn := Try.f70) Try.func70 rfl (by decide) (by simp [Try.f70]) rfl rfl rfl rfl (lb rfl) ?_
 refine zs ?_
 refine zg hT hA {} (by cbv) (lb rfl) ?_
 refine nT (zs ?_)
 obtain ⟨v41, hvK42, h⟩ := bindS h
 refine AWp.cutW (fun τ => τ = { env := [(4, (.d (.bool v41)))], heap := [(.cells [(zl 1 x2), (zl 1 x3), (zi x4), (zi x5), (zi x6), (zi x7), (zi x8), (zi x9), (zi x10), (zi x11), (zi x12), (zi x13), (zi x14), (zi x15), (zi x16), (zi x17), (zi x18), (zi x19), (zi x20), (zi x21), (.gref 1 6), (.gref 4 1)]), (.gro 6 x22), .dead, .dead, (.gro 1 x23), .dead, .dead], n := 31 }) ?_ ?_
 ·skip
  refine AWp.regionDraw rfl (lb rfl) ?_
  obtain ⟨r25, e24, hvK42⟩ := bindS hvK42
  refine DOps.c0 hT hA { tk := [30] } rfl (by cbv) (C47w hA e24) rfl rfl (lb rfl) rfl rfl ?_
  rcases tf r25 with c26 | c26
  ·replace hvK42 := cT c26 hvK42
   rcases tf (A.zeq x1 0) with c27 | c27
   ·replace hvK42 := cT c27 hvK42
    obtain ⟨f28a, f28b, f28c⟩ := ixF hA (n := 2) c27 (by decide)
    obtain ⟨a29, e30, hvK42⟩ := bindS hvK42
    obtain ⟨f31, f32⟩ := gtI e30
    have f33 := f32
    rw [f28c] at f33
    refine DOps.cd hT hA { tk := [30] } rfl (by (repeat (cbv; simp only [c26, f28a, f28b, f28c, f33, f31, f32])); try cbv) (by kernel_rfl) ?_
    cases soI hvK42
    exact oWi ⟨_, (Wk.ren [some 0, some 1, some 2, some 3, some 4, some 5, some 6] [4] rfl (by first | (cbv; done) | ((repeat (cbv; simp only [c26])); try cbv))), rfl⟩
   ·replace hvK42 := cF c27 hvK42
    rcases tf (A.zeq x1 1) with c34 | c34
    ·replace hvK42 := cT c34 hvK42
     obtain ⟨f35a, f35b, f35c⟩ := ixF hA (n := 2) c34 (by decide)
     obtain ⟨a36, e37, hvK42⟩ := bindS hvK42
     obtain ⟨f38, f39⟩ := gtI e37
     have f40 := f39
     rw [f35c] at f40
     refine DOps.cd hT hA { tk := [30] } rfl (by (repeat (cbv; simp only [c26, f35a, f35b, f35c, f40, f38, f39])); try cbv) (by kernel_rfl) ?_
     cases soI hvK42
     exact oWi ⟨_, (Wk.ren [some 0, some 1, some 2, some 3, some 4, some 5, some 6] [4] rfl (by first | (cbv; done) | ((repeat (cbv; simp only [c26])); try cbv))), rfl⟩
    ·replace hvK42 := cF c34 hvK42
     cases hvK42
  ·replace hvK42 := cF c26 hvK42
   refine DOps.cd hT hA { tk := [30] } rfl (by (repeat (cbv; simp only [c26])); try cbv) (by kernel_rfl) ?_
   cases soI hvK42
   exact oWi ⟨_, (Wk.ren [some 0, some 1, some 2, some 3, some 4, some 5, some 6] [4] rfl (by first | (cbv; done) | ((repeat (cbv; simp only [c26])); try cbv))), rfl⟩
 ·rintro _ rfl
  refine nT ?_
  refine zr ?_
  cases soI h
  exact ⟨rfl, rfl, rfl, lb rfl, _, rfl⟩

theorem C143w {A : Ar} (hA : A = Ar.std) {x1 x2 x3 x4 x5 x6 x7 : Int} {v11 : Bool} (h : C143 A x1 x2 x3 x4 x5 x6 x7 = some v11) : ACall Try.prog 143 [(.d (.agg [(.int .i64 x1), (.int .i64 x2), (.int .i64 x3), (.int .i64 x4), (.int .i64 x5), (.int .i64 x6)])), (.iptr [(.int .i64 x7)])] [] (.d (.bool v11)) [] := by
 unfold C143 at h
 refine ACall.enter hT (fn := Try.f143) Try.func143 rfl (by decide) (by simp [Try.f143]) rfl rfl rfl rfl (lb rfl) ?_
 refine zs ?_
 refine zg hT hA {} (by cbv) (lb rfl) ?_
 refine nT (zs ?_)
 obtain ⟨v9, hvK10, h⟩ := bindS h
 refine AWp.cutN [3] [] 0 (lb rfl) (fun τ => τ = { env := [(3, (.d (.bool v9)))], heap := [], n := 13 }) ?_ ?_
 ·skip
  rcases tf (A.zeq x1 x7) with c8 | c8
  ·replace hvK10 := cT c8 hvK10
   refine zg hT hA { tk := [12] } (by (repeat (cbv; simp only [c8])); try cbv) (lb rfl) ?_
   cases soI hvK10
   exact oNi ⟨rfl, (by first | (cbv; done) | ((repeat (cbv; simp only [c8])); try cbv))⟩
  ·replace hvK10 := cF c8 hvK10
   refine zg hT hA { tk := [12] } (by (repeat (cbv; simp only [c8])); try cbv) (lb rfl) ?_
   cases soI hvK10
   exact oNi ⟨rfl, (by first | (cbv; done) | ((repeat (cbv; simp only [c8])); try cbv))⟩
 ·rintro _ rfl
  refine nT ?_
  refine zr ?_
  cases soI h
  exact ⟨rfl, rfl, rfl, lb rfl, _, rfl⟩

theorem C166w {A : Ar} (hA : A = Ar.std) {x1 : Int} {x2 x3 : List D} {x4 x5 x6 x7 x8 x9 x10 x11 x12 x13 x14 x15 x16 x17 x18 x19 x20 x21 : Int} {x22 x23 : List D} {v59 : Int} (h : C166 A x1 x2 x3 x4 x5 x6 x7 x8 x9 x10 x11 x12 x13 x14 x15 x16 x17 x18 x19 x20 x21 x22 x23 = some v59) : ACall Try.prog 166 [(.gref 1 6), (.func 143 [] [(.iptr [(.int .i64 x1)])])] [(.cells [(zl 1 x2), (zl 1 x3), (zi x4), (zi x5), (zi x6), (zi x7), (zi x8), (zi x9), (zi x10), (zi x11), (zi x12), (zi x13), (zi x14), (zi x15), (zi x16), (zi x17), (zi x18), (zi x19), (zi x20), (zi x21), (.gref 1 6), (.gref 4 1)]), (.gro 6 x22), .dead, .dead, (.gro 1 x23), .dead, .dead] (zi v59) [(.cells [(zl 1 x2), (zl 1 x3), (zi x4), (zi x5), (zi x6), (zi x7), (zi x8), (zi x9), (zi x10), (zi x11), (zi x12), (zi x13), (zi x14), (zi x15), (zi x16), (zi x17), (zi x18), (zi x19), (zi x20), (zi x21), (.gref 1 6), (.gref 4 1)]), (.gro 6 x22), .dead, .dead, (.gro 1 x23), .dead, .dead] := by
 unfold C166 at h
 refine ACall.enter hT (fn := Try.f166) Try.func166 rfl (by decide) (by simp [Try.f166]) rfl rfl rfl rfl (lb rfl) ?_
 refine zs ?_
 refine zg hT hA {} (by cbv) (lb rfl) ?_
 refine nT (zs (zs ?_))
 refine zg hT hA {} (by cbv) (lb rfl) ?_
 refine nT (zb ?_)
 obtain ⟨xK58, hxK58, K58, hK58, hkK58⟩ := bindK h
 refine AWp.cutXW 0 (fun τ => K58 (.inl ()) = some v59 ∧ τ = { env := [], heap := [(.cells [(zl 1 x2), (zl 1 x3), (zi x4), (zi x5), (zi x6), (zi x7), (zi x8), (zi x9), (zi x10), (zi x11), (zi x12), (zi x13), (zi x14), (zi x15), (zi x16), (zi x17), (zi x18), (zi x19), (zi x20), (zi x21), (.gref 1 6), (.gref 4 1)]), (.gro 6 x22), .dead, .dead, (.gro 1 x23), .dead, .dead], n := 19 }) ?_ ?_
 ·skip
  refine AWp.iterW hxK58 (fun v40 => { env := [(0, (.gref 1 6)), (1, (.func 143 [] [(.iptr [(.int .i64 x1)])])), (7, (.d (.int .i64 (A.len x22)))), (8, (zi v40))], heap := [(.cells [(zl 1 x2), (zl 1 x3), (zi x4), (zi x5), (zi x6), (zi x7), (zi x8), (zi x9), (zi x10), (zi x11), (zi x12), (zi x13), (zi x14), (zi x15), (zi x16), (zi x17), (zi x18), (zi x19), (zi x20), (zi x21), (.gref 1 6), (.gref 4 1)]), (.gro 6 x22), .dead, .dead, (.gro 1 x23), .dead, .dead], n := 19 }) ⟨_, Wk.ren [some 0, some 1, some 2, some 3, some 4, some 5, some 6] [0, 1, 7, 8] rfl (by cbv), rfl⟩ ?_
  rintro v40 eK58 hsK58
  dsimp only [C166L0] at hsK58
  refine zs ?_
  refine zg hT hA {} (by cbv) (lb rfl) ?_
  refine nT (zs ?_)
  rcases tf (A.zlt v40 (A.len x22)) with c41 | c41
  ·replace hsK58 := cT c41 hsK58
   refine zt rfl (by first | rfl | simp only [c41, zqa, zqb, zqc, zqd]) ?_
   refine zk ?_
   refine nT (zs (zb (zs ?_)))
   refine zg hT hA { tk := [8, 10] } (by (repeat (cbv; simp only [c41])); try cbv) (lb rfl) ?_
   refine nT (zs (zn ?_))
   obtain ⟨_, e42, hsK58⟩ := bindS hsK58
   have f44 := ckI e42
   obtain ⟨_, e43, hsK58⟩ := bindS hsK58
   have f45 := ckI e43
   obtain ⟨⟨a46, a47, a48, a49, a50, a51⟩, e52, hsK58⟩ := bindS hsK58
   have f53 := gcI e52
   obtain ⟨r55, e54, hsK58⟩ := bindS hsK58
   refine AOps.cc hT hA {} (by (repeat (cbv; simp only [c41, f44, f45, f53])); try cbv) (lb rfl) (C143w hA e54) rfl (.inr rfl) rfl rfl rfl (lb rfl) rfl rfl ?_
   refine AOps.cd hT hA {} (by (repeat (cbv; simp only [c41, f44, f45, f53])); try cbv) (lb rfl) ?_
   refine nT ?_
   rcases tf r55 with c56 | c56
   ·replace hsK58 := cT c56 hsK58
    refine zt rfl (by first | rfl | simp only [c41, c56, zqa, zqb, zqc, zqd]) ?_
    refine zs ?_
    refine zg hT hA { tk := [5, 17] } (by (repeat (cbv; simp only [c41, c56])); try cbv) (lb rfl) ?_
    refine nT ?_
    refine zr ?_
    refine rB ?_
    refine rT ?_
    refine rT ?_
    refine exL hsK58 fun hx => ?_
    subst hx
    refine oxWR ?_
    replace hkK58 := (eR (hK58 _ hkK58))
    refine rB ?_
    refine rT ?_
    cases soI hkK58
    exact ⟨rfl, rfl, rfl, lb rfl, _, rfl⟩
   ·replace hsK58 := cF c56 hsK58
    refine zf rfl (by first | rfl | simp only [c41, c56, zqa, zqb, zqc, zqd]) ?_
    refine zk ?_
    refine nB ?_
    refine nT ?_
    refine zg hT hA { tk := [18] } (by (repeat (cbv; simp only [c41, c56])); try cbv) (lb rfl) ?_
    exact nT ⟨_, (soI hsK58).symm, _, (Wk.ren [some 0, some 1, some 2, some 3, some 4, some 5, some 6] [0, 1, 7, 8] rfl (by first | (cbv; done) | ((repeat (cbv; simp only [c41, c56])); try cbv))), rfl⟩
  ·replace hsK58 := cF c41 hsK58
   refine zf rfl (by first | rfl | simp only [c41, zqa, zqb, zqc, zqd]) ?_
   refine AWp.exit ?_
   refine xT ?_
   refine xT ?_
   refine exL hsK58 fun hx => ?_
   subst hx
   exact oxWI ⟨_, (Wk.ren [some 0, some 1, some 2, some 3, some 4, some 5, some 6] [] rfl (by first | (cbv; done) | ((repeat (cbv; simp only [c41])); try cbv))), hkK58, rfl⟩
 ·rintro _ ⟨hkK58, rfl⟩
  have h := (eL (hK58 _ hkK58))
  refine xB ?_
  refine nT (zs ?_)
  refine zg hT hA {} (by cbv) (lb rfl) ?_
  refine nT ?_
  refine zr ?_
  cases soI h
  exact ⟨rfl, rfl, rfl, lb rfl, _, rfl⟩

theorem C142w {A : Ar} (hA : A = Ar.std) {x1 : Int} {x2 x3 : List D} {x4 x5 x6 x7 x8 x9 x10 x11 x12 x13 x14 x15 x16 x17 x18 x19 x20 x21 : Int} {x22 x23 : List D} {v26 : Bool} (h : C142 A x1 x2 x3 x4 x5 x6 x7 x8 x9 x10 x11 x12 x13 x14 x15 x16 x17 x18 x19 x20 x21 x22 x23 = some v26) : ACall Try.prog 142 [(.gref 1 6), (.func 143 [] [(.iptr [(.int .i64 x1)])])] [(.cells [(zl 1 x2), (zl 1 x3), (zi x4), (zi x5), (zi x6), (zi x7), (zi x8), (zi x9), (zi x10), (zi x11), (zi x12), (zi x13), (zi x14), (zi x15), (zi x16), (zi x17), (zi x18), (zi x19), (zi x20), (zi x21), (.gref 1 6), (.gref 4 1)]), (.gro 6 x22), .dead, .dead, (.gro 1 x23), .dead, .dead] (.d (.bool v26)) [(.cells [(zl 1 x2), (zl 1 x3), (zi x4), (zi x5), (zi x6), (zi x7), (zi x8), (zi x9), (zi x10), (zi x11), (zi x12), (zi x13), (zi x14), (zi x15), (zi x16), (zi x17), (zi x18), (zi x19), (zi x20), (zi x21), (.gref 1 6), (.gref 4 1)]), (.gro 6 x22), .dead, .dead, (.gro 1 x23), .dead, .dead] := by
 unfold C142 at h
 refine ACall.enter hT (fn := Try.f142) Try.func142 rfl (by decide) (by simp [Try.f142]) rfl rfl rfl rfl (lb rfl) ?_
 refine zs ?_
 refine zg hT hA {} (by cbv) (lb rfl) ?_
 refine nT (zs (zn ?_))
 obtain ⟨r25, e24, h⟩ := bindS h
 refine AOps.cc hT hA { tk := [8] } (by cbv) (lb rfl) (C166w hA e24) rfl (.inl rfl) rfl rfl rfl (lb rfl) rfl rfl ?_
 refine AOps.cd hT hA { tk := [8] } (by cbv) (lb rfl) ?_
 refine nT ?_
 refine zr ?_
 cases soI h
 exact ⟨rfl, rfl, rfl, lb rfl, _, rfl⟩

theorem C116w {A : Ar} (hA : A = Ar.std) {x1 : Int} {x2 x3 : List D} {x4 x5 x6 x7 x8 x9 x10 x11 x12 x13 x14 x15 x16 x17 x18 x19 x20 x21 : Int} {x22 x23 : List D} {v26 : Bool} (h : C116 A x1 x2 x3 x4 x5 x6 x7 x8 x9 x10 x11 x12 x13 x14 x15 x16 x17 x18 x19 x20 x21 x22 x23 = some v26) : ACall Try.prog 116 [(.ptr 0 0), (zi x1)] [(.cells [(zl 1 x2), (zl 1 x3), (zi x4), (zi x5), (zi x6), (zi x7), (zi x8), (zi x9), (zi x10), (zi x11), (zi x12), (zi x13), (zi x14), (zi x15), (zi x16), (zi x17), (zi x18), (zi x19), (zi x20), (zi x21), (.gref 1 6), (.gref 4 1)]), (.gro 6 x22), .dead, .dead, (.gro 1 x23), .dead, .dead] (.d (.bool v26)) [(.cells [(zl 1 x2), (zl 1 x3), (zi x4), (zi x5), (zi x6), (zi x7), (zi x8), (zi x9), (zi x10), (zi x11), (zi x12), (zi x13), (zi x14), (zi x15), (zi x16), (zi x17), (zi x18), (zi x19), (zi x20), (zi x21), (.gref 1 6), (.gref 4 1)]), (.gro 6 x22), .dead, .dead, (.gro 1 x23), .dead, .dead] := by
 unfold C116 at h
 refine ACall.enter hT (fn := Try.f116) Try.func116 rfl (by decide) (by simp [Try.f116]) rfl rfl rfl rfl (lb rfl) ?_
 refine zs ?_
 refine zg hT hA {} (by cbv) (lb rfl) ?_
 refine nT ?_
 refine AWp.freezeBox 3 [(.int .i64 x1)] rfl rfl ?_
 refine zs (zn ?_)
 obtain ⟨r25, e24, h⟩ := bindS h
 refine AOps.cc hT hA { tk := [10] } (by cbv) (lb rfl) (C142w hA e24) rfl (.inl rfl) rfl rfl rfl (lb rfl) rfl rfl ?_
 refine AOps.cd hT hA { tk := [10] } (by cbv) (lb rfl) ?_
 refine nT ?_
 refine zr ?_
 cases soI h
 exact ⟨rfl, rfl, rfl, lb rfl, _, rfl⟩

theorem C117w {A : Ar} (hA : A = Ar.std) (h : C117 A = some ()) : ACall Try.prog 117 [] [] (.d (.agg [(.int .i64 0), (.int .i64 1), (.int .i64 0), (.int .i64 0)])) [] := by
 unfold C117 at h
 refine ACall.enter hT (fn := Try.f117) Try.func117 rfl (by decide) (by simp [Try.f117]) rfl rfl rfl rfl (lb rfl) ?_
 refine zs ?_
 refine zg hT hA {} (by cbv) (lb rfl) ?_
 refine nT (zs ?_)
 refine zg hT hA { tk := [1] } (by cbv) (lb rfl) ?_
 refine nT ?_
 refine zr ?_
 cases soI h
 exact ⟨rfl, rfl, rfl, lb rfl, _, rfl⟩

theorem C118w {A : Ar} (hA : A = Ar.std) {x1 x2 x3 x4 : Int} {x5 x6 : List D} {x7 x8 x9 x10 x11 x12 x13 x14 x15 x16 x17 x18 x19 x20 x21 x22 x23 x24 : Int} {x25 x26 : List D} {v53 v54 v55 v56 : Int} (h : C118 A x1 x2 x3 x4 x5 x6 x7 x8 x9 x10 x11 x12 x13 x14 x15 x16 x17 x18 x19 x20 x21 x22 x23 x24 x25 x26 = some (v53, v54, v55, v56)) : ACall Try.prog 118 [(.ptr 0 0), (.ptr 0 4), (.d (.agg [(.int .i64 x1), (.int .i64 x2), (.int .i64 x3), (.int .i64 x4)]))] [(.cells [(zl 1 x5), (zl 1 x6), (zi x7), (zi x8), (zi x9), (zi x10), (zi x11), (zi x12), (zi x13), (zi x14), (zi x15), (zi x16), (zi x17), (zi x18), (zi x19), (zi x20), (zi x21), (zi x22), (zi x23), (zi x24), (.gref 7 6), (.gref 10 1)]), .dead, .dead, .dead, .dead, .dead, .dead, (.gro 6 x25), .dead, .dead, (.gro 1 x26), .dead, .dead] (.tuple []) [(.cells [(zl 1 x5), (zl 1 x6), (zi x7), (zi x8), (zi x9), (zi x10), (zi x11), (zi v53), (zi x13), (zi x14), (zi x15), (zi x16), (zi x17), (zi x18), (zi x19), (zi x20), (zi v54), (zi v55), (zi v56), (zi x24), (.gref 7 6), (.gref 10 1)]), .dead, .dead, .dead, .dead, .dead, .dead, (.gro 6 x25), .dead, .dead, (.gro 1 x26), .dead, .dead] := by
 unfold C118 at h
 refine ACall.enter hT (fn := Try.f118) Try.func118 rfl (by decide) (by simp [Try.f118]) rfl rfl rfl rfl (lb rfl) ?_
 refine zs ?_
 refine zg hT hA {} (by cbv) (lb rfl) ?_
 refine nT (zs (zs ?_))
 obtain ⟨_, e27, h⟩ := bindS h
 have f29 := ckI e27
 obtain ⟨_, e28, h⟩ := bindS h
 have f30 := ckI e28
 obtain ⟨a31, e32, h⟩ := bindS h
 have f33 := gcI e32
 obtain ⟨_, e34, h⟩ := bindS h
 have f36 := ckI e34
 obtain ⟨_, e35, h⟩ := bindS h
 have f37 := ckI e35
 obtain ⟨a38, e39, h⟩ := bindS h
 have f40 := gcI e39
 refine AWp.rd hT hA { vx := [11, 17] } rfl (by (repeat (cbv; simp only [f29, f30, f33, f36, f37, f40])); try cbv) (by kernel_rfl) (lb rfl) ?_
 refine nT ?_
 rcases tf (A.zeq a31 a38) with c41 | c41
 ·replace h := cT c41 h
  refine zf rfl (by first | rfl | simp only [c41, zqa, zqb, zqc, zqd]) ?_
  refine zk ?_
  refine nT (zs ?_)
  obtain ⟨_, e42, h⟩ := bindS h
  have f44 := ckI e42
  obtain ⟨_, e43, h⟩ := bindS h
  have f45 := ckI e43
  obtain ⟨a46, e47, h⟩ := bindS h
  have f48 := gcI e47
  obtain ⟨_, e49, h⟩ := bindS h
  have f51 := ckI e49
  obtain ⟨_, e50, h⟩ := bindS h
  have f52 := ckI e50
  refine AWp.rd hT hA { tk := [31], vx := [30, 34] } rfl (by (repeat (cbv; simp only [c41, f44, f45, f48, f51, f52])); try cbv) (by kernel_rfl) (lb rfl) ?_
  refine nT ?_
  refine zg hT hA {} (by (repeat (cbv; simp only [c41])); try cbv) (lb rfl) ?_
  cases soI h
  exact ⟨rfl, rfl, rfl, lb rfl, _, rfl⟩
 ·replace h := cF c41 h
  refine zt rfl (by first | rfl | simp only [c41, zqa, zqb, zqc, zqd]) ?_
  refine zs ?_
  refine zg hT hA {} (by (repeat (cbv; simp only [c41])); try cbv) (lb rfl) ?_
  refine nT ?_
  refine zr ?_
  refine rT ?_
  cases soI h
  exact ⟨rfl, rfl, rfl, lb rfl, _, rfl⟩

theorem C118aw {A : Ar} (hA : A = Ar.std) {x1 x2 x3 x4 : Int} {x5 x6 : List D} {x7 x8 x9 x10 x11 x12 x13 x14 x15 x16 x17 x18 x19 x20 x21 x22 x23 x24 : Int} {x25 x26 : List D} {v53 v54 v55 v56 : Int} (h : C118a A x1 x2 x3 x4 x5 x6 x7 x8 x9 x10 x11 x12 x13 x14 x15 x16 x17 x18 x19 x20 x21 x22 x23 x24 x25 x26 = some (v53, v54, v55, v56)) : ACall Try.prog 118 [(.ptr 0 0), (.ptr 0 11), (.d (.agg [(.int .i64 x1), (.int .i64 x2), (.int .i64 x3), (.int .i64 x4)]))] [(.cells [(zl 1 x5), (zl 1 x6), (zi x7), (zi x8), (zi x9), (zi x10), (zi x11), (zi x12), (zi x13), (zi x14), (zi x15), (zi x16), (zi x17), (zi x18), (zi x19), (zi x20), (zi x21), (zi x22), (zi x23), (zi x24), (.gref 7 6), (.gref 10 1)]), .dead, .dead, .dead, .dead, .dead, .dead, (.gro 6 x25), .dead, .dead, (.gro 1 x26), .dead, .dead] (.tuple []) [(.cells [(zl 1 x5), (zl 1 x6), (zi x7), (zi x8), (zi x9), (zi x10), (zi x11), (zi x12), (zi x13), (zi x14), (zi x15), (zi x16), (zi x17), (zi x18), (zi v53), (zi x20), (zi v54), (zi v55), (zi v56), (zi x24), (.gref 7 6), (.gref 10 1)]), .dead, .dead, .dead, .dead, .dead, .dead, (.gro 6 x25), .dead, .dead, (.gro 1 x26), .dead, .dead] := by
 unfold C118a at h
 refine ACall.enter hT (fn := Try.f118) Try.func118 rfl (by decide) (by simp [Try.f118]) rfl rfl rfl rfl (lb rfl) ?_
 refine zs ?_
 refine zg hT hA {} (by cbv) (lb rfl) ?_
 refine nT (zs (zs ?_))
 obtain ⟨_, e27, h⟩ := bindS h
 have f29 := ckI e27
 obtain ⟨_, e28, h⟩ := bindS h
 have f30 := ckI e28
 obtain ⟨a31, e32, h⟩ := bindS h
 have f33 := gcI e32
 obtain ⟨_, e34, h⟩ := bindS h
 have f36 := ckI e34
 obtain ⟨_, e35, h⟩ := bindS h
 have f37 := ckI e35
 obtain ⟨a38, e39, h⟩ := bindS h
 have f40 := gcI e39
 refine AWp.rd hT hA { vx := [11, 17] } rfl (by (repeat (cbv; simp only [f29, f30, f33, f36, f37, f40])); try cbv) (by kernel_rfl) (lb rfl) ?_
 refine nT ?_
 rcases tf (A.zeq a31 a38) with c41 | c41
 ·replace h := cT c41 h
  refine zf rfl (by first | rfl | simp only [c41, zqa, zqb, zqc, zqd]) ?_
  refine zk ?_
  refine nT (zs ?_)
  obtain ⟨_, e42, h⟩ := bindS h
  have f44 := ckI e42
  obtain ⟨_, e43, h⟩ := bindS h
  have f45 := ckI e43
  obtain ⟨a46, e47, h⟩ := bindS h
  have f48 := gcI e47
  obtain ⟨_, e49, h⟩ := bindS h
  have f51 := ckI e49
  obtain ⟨_, e50, h⟩ := bindS h
  have f52 := ckI e50
  refine AWp.rd hT hA { tk := [31], vx := [30, 34] } rfl (by (repeat (cbv; simp only [c41, f44, f45, f48, f51, f52])); try cbv) (by kernel_rfl) (lb rfl) ?_
  refine nT ?_
  refine zg hT hA {} (by (repeat (cbv; simp only [c41])); try cbv) (lb rfl) ?_
  cases soI h
  exact ⟨rfl, rfl, rfl, lb rfl, _, rfl⟩
 ·replace h := cF c41 h
  refine zt rfl (by first | rfl | simp only [c41, zqa, zqb, zqc, zqd]) ?_
  refine zs ?_
  refine zg hT hA {} (by (repeat (cbv; simp only [c41])); try cbv) (lb rfl) ?_
  refine nT ?_
  refine zr ?_
  refine rT ?_
  cases soI h
  exact ⟨rfl, rfl, rfl, lb rfl, _, rfl⟩

theorem C71w {A : Ar} (hA : A = Ar.std) {x1 : Int} {x2 x3 x4 : List D} {x5 x6 x7 x8 x9 x10 x11 x12 x13 x14 x15 x16 x17 x18 x19 x20 x21 x22 : Int} {x23 x24 v451 v452 : List D} {v453 v454 v455 v456 v457 v458 v459 v460 v461 v462 v463 v464 v465 v466 v467 v468 v469 v470 : Int} {v471 v472 : List D} (h : C71 A x1 x2 x3 x4 x5 x6 x7 x8 x9 x10 x11 x12 x13 x14 x15 x16 x17 x18 x19 x20 x21 x22 x23 x24 = some (v451, v452, v453, v454, v455, v456, v457, v458, v459, v460, v461, v462, v463, v464, v465, v466, v467, v468, v469, v470, v471, v472)) : ACall Try.prog 71 [(.ptr 0 0), (zi x1), (zl 1 x2)] [(.cells [(zl 1 x3), (zl 1 x4), (zi x5), (zi x6), (zi x7), (zi x8), (zi x9), (zi x10), (zi x11), (zi x12), (zi x13), (zi x14), (zi x15), (zi x16), (zi x17), (zi x18), (zi x19), (zi x20), (zi x21), (zi x22), (.gref 1 6), (.gref 4 1)]), (.gro 6 x23), .dead, .dead, (.gro 1 x24), .dead, .dead] (.tuple []) [(.cells [(zl 1 v451), (zl 1 v452), (zi v453), (zi v454), (zi v455), (zi v456), (zi v457), (zi v458), (zi v459), (zi v460), (zi v461), (zi v462), (zi v463), (zi v464), (zi v465), (zi v466), (zi v467), (zi v468), (zi v469), (zi v470), (.gref 7 6), (.gref 10 1)]), .dead, .dead, .dead, .dead, .dead, .dead, (.gro 6 v471), .dead, .dead, (.gro 1 v472), .dead, .dead] := by
 unfold C71 at h
 refine ACall.enter hT (fn := Try.f71) Try.func71 rfl (by decide) (by simp [Try.f71]) rfl rfl rfl rfl (lb rfl) ?_
 refine zs ?_
 rcases tf (A.zeq x1 0) with c25 | c25
 ·replace h := cT c25 h
  obtain ⟨f26a, f26b, f26c⟩ := ixF hA (n := 2) c25 (by decide)
  refine zg hT hA {} (by (repeat (cbv; simp only [f26a, f26b, f26c])); try cbv) (lb rfl) ?_
  refine nT (zs ?_)
  obtain ⟨a29, e30, h⟩ := bindS h
  obtain ⟨f31, f32⟩ := gtI e30
  obtain ⟨a33, e34, h⟩ := bindS h
  obtain ⟨f35, f36⟩ := gtI e34
  refine AWp.rd hT hA {} rfl (by (repeat (cbv; simp only [f31, f32, f35, f36])); try cbv) (by kernel_rfl) (lb rfl) ?_
  refine nT (zs (zs ?_))
  obtain ⟨v40, hvK41, h⟩ := bindS h
  refine AWp.cutW (fun τ => τ = { env := [(0, (.ptr 0 0)), (1, (zi x1)), (2, (zl 1 x2)), (6, (.ptr 0 2)), (7, (zi a33)), (39, (.d (.bool v40)))], heap := [(.cells [(zl 1 x3), (zl 1 x4), (zi x5), (zi x6), (zi x7), (zi x8), (zi x9), (zi x10), (zi x11), (zi x12), (zi x13), (zi x14), (zi x15), (zi x16), (zi x17), (zi x18), (zi x19), (zi x20), (zi x21), (zi x22), (.gref 1 6), (.gref 4 1)]), (.gro 6 x23), .dead, .dead, (.gro 1 x24), .dead, .dead], n := 254 }) ?_ ?_
  ·skip
   refine zn ?_
   rcases tf (A.zeq x6 0) with c37 | c37
   ·replace hvK41 := cT c37 hvK41
    obtain ⟨r39, e38, hvK41⟩ := bindS hvK41
    refine AOps.cc hT hA {} (by (repeat (cbv; simp only [c37])); try cbv) (lb rfl) (C116w hA e38) rfl (.inl rfl) rfl rfl rfl (lb rfl) rfl rfl ?_
    refine AOps.cd hT hA {} (by (repeat (cbv; simp only [c37])); try cbv) (lb rfl) ?_
    cases soI hvK41
    exact oWi ⟨_, (Wk.ren [some 0, some 1, some 2, some 3, some 4, some 5, some 6] [0, 1, 2, 6, 7, 39] rfl (by first | (cbv; done) | ((repeat (cbv; simp only [c37])); try cbv))), rfl⟩
   ·replace hvK41 := cF c37 hvK41
    refine AOps.cd hT hA {} (by (repeat (cbv; simp only [c37])); try cbv) (lb rfl) ?_
    cases soI hvK41
    exact oWi ⟨_, (Wk.ren [some 0, some 1, some 2, some 3, some 4, some 5, some 6] [0, 1, 2, 6, 7, 39] rfl (by first | (cbv; done) | ((repeat (cbv; simp only [c37])); try cbv))), rfl⟩
  ·rintro _ rfl
   refine nT ?_
   obtain ⟨⟨v52, v53, v54, v55, v56, v57, v58⟩, hvK59, h⟩ := bindS h
   refine AWp.cutW (fun τ => τ = { env := [(0, (.ptr 0 0)), (2, (zl 1 x2)), (6, (.ptr 0 2)), (7, (zi a33))], heap := [(.cells [(zl 1 x3), (zl 1 x4), (zi x5), (zi x6), (zi v52), (zi v53), (zi v54), (zi v55), (zi v56), (zi x12), (zi x13), (zi x14), (zi x15), (zi x16), (zi x17), (zi x18), (zi x19), (zi x20), (zi x21), (zi x22), (.gref 7 6), (.gref 10 1)]), .dead, .dead, .dead, .dead, .dead, .dead, (.gro 6 v57), .dead, .dead, (.gro 1 v58), .dead, .dead], n := 254 }) ?_ ?_
   ·skip
    rcases tf v40 with c42 | c42
    ·replace hvK59 := cT c42 hvK59
     refine zt rfl (by first | rfl | simp only [c42, zqa, zqb, zqc, zqd]) ?_
     refine zs (zn ?_)
     obtain ⟨_, e43, hvK59⟩ := bindS hvK59
     refine AOps.cc hT hA {} (by (repeat (cbv; simp only [c42])); try cbv) (lb rfl) (C117w hA e43) rfl (.inr rfl) rfl rfl rfl (lb rfl) rfl rfl ?_
     refine AOps.cd hT hA {} (by (repeat (cbv; simp only [c42])); try cbv) (lb rfl) ?_
     refine nT (zs ?_)
     refine zg hT hA {} (by (repeat (cbv; simp only [c42])); try cbv) (lb rfl) ?_
     refine nT (zs ?_)
     obtain ⟨l44, e45, hvK59⟩ := bindS hvK59
     obtain ⟨f46, f47⟩ := apI e45
     refine AWp.rd hT hA { tk := [56, 67] } rfl (by (repeat (cbv; simp only [c42, f46, f47])); try cbv) (by kernel_rfl) (lb rfl) ?_
     refine nT ?_
     refine AWp.weak (Wk.settle 0 20 rfl rfl rfl) ?_
     obtain ⟨l48, e49, hvK59⟩ := bindS hvK59
     obtain ⟨f50, f51⟩ := apI e49
     refine zg hT hA { tk := [74, 76] } (by (repeat (cbv; simp only [c42, f50, f51])); try cbv) (lb rfl) ?_
     cases soI hvK59
     exact oWi ⟨_, (Wk.trans (Wk.settle 0 21 rfl rfl rfl) (Wk.ren [some 0, some 1, some 2, some 3, some 4, some 5, some 6, some 7, some 8, some 9, some 10, some 11, some 12] [0, 2, 6, 7] rfl (by first | (cbv; done) | ((repeat (cbv; simp only [c42])); try cbv)))), rfl⟩
    ·replace hvK59 := cF c42 hvK59
     refine zf rfl (by first | rfl | simp only [c42, zqa, zqb, zqc, zqd]) ?_
     refine zk ?_
     cases soI hvK59
     exact oWi ⟨_, (Wk.ren [some 0, none, none, none, none, none, none, some 1, some 2, some 3, some 4, some 5, some 6] [0, 2, 6, 7] rfl (by first | (cbv; done) | ((repeat (cbv; simp only [c42])); try cbv))), rfl⟩
   ·rintro _ rfl
    refine nT (zs ?_)
    refine zg hT hA {} (by cbv) (lb rfl) ?_
    refine nT (zs (zs ?_))
    obtain ⟨v65, hvK66, h⟩ := bindS h
    refine AWp.cutW (fun τ => τ = { env := [(0, (.ptr 0 0)), (6, (.ptr 0 2)), (7, (zi a33)), (99, (.d (.bool v65)))], heap := [(.cells [(zl 1 x3), (zl 1 x4), (zi x5), (zi x6), (zi v52), (zi v53), (zi v54), (zi v55), (zi v56), (zi x12), (zi x13), (zi x14), (zi x15), (zi x16), (zi x17), (zi x18), (zi x19), (zi x20), (zi x21), (.d (.int .i64 (A.wrp .i64 (A.zadd x22 1)))), (.gref 7 6), (.gref 10 1)]), .dead, .dead, .dead, .dead, .dead, .dead, (.gro 6 v57), .dead, .dead, (.gro 1 v58), .dead, .dead], n := 254 }) ?_ ?_
    ·skip
     rcases tf (A.zlt 0 (A.len x2)) with c60 | c60
     ·replace hvK66 := cT c60 hvK66
      obtain ⟨a61, e62, hvK66⟩ := bindS hvK66
      obtain ⟨f63, f64⟩ := gtI e62
      refine AWp.rd hT hA {} rfl (by (repeat (cbv; simp only [c60, f63, f64])); try cbv) (by kernel_rfl) (lb rfl) ?_
      cases soI hvK66
      exact oWi ⟨_, (Wk.ren [some 0, some 1, some 2, some 3, some 4, some 5, some 6, some 7, some 8, some 9, some 10, some 11, some 12] [0, 6, 7, 99] rfl (by first | (cbv; done) | ((repeat (cbv; simp only [c60])); try cbv))), rfl⟩
     ·replace hvK66 := cF c60 hvK66
      refine AWp.rd hT hA {} rfl (by (repeat (cbv; simp only [c60])); try cbv) (by kernel_rfl) (lb rfl) ?_
      cases soI hvK66
      exact oWi ⟨_, (Wk.ren [some 0, some 1, some 2, some 3, some 4, some 5, some 6, some 7, some 8, some 9, some 10, some 11, some 12] [0, 6, 7, 99] rfl (by first | (cbv; done) | ((repeat (cbv; simp only [c60])); try cbv))), rfl⟩
    ·rintro _ rfl
     refine nT ?_
     obtain ⟨v75, hvK76, h⟩ := bindS h
     refine AWp.cutW (fun τ => τ = { env := [(0, (.ptr 0 0)), (6, (.ptr 0 2)), (7, (zi a33))], heap := [(.cells [(zl 1 x3), (zl 1 x4), (zi x5), (zi x6), (zi v52), (zi v53), (zi v54), (zi v55), (zi v56), (zi x12), (zi x13), (zi x14), (zi x15), (zi x16), (zi x17), (zi x18), (zi x19), (zi x20), (zi x21), (.d (.int .i64 (A.wrp .i64 (A.zadd x22 1)))), (.gref 7 6), (.gref 10 1)]), .dead, .dead, .dead, .dead, .dead, .dead, (.gro 6 v57), .dead, .dead, (.gro 1 v75), .dead, .dead], n := 254 }) ?_ ?_
     ·skip
      rcases tf v65 with c67 | c67
      ·replace hvK76 := cT c67 hvK76
       refine zt rfl (by first | rfl | simp only [c67, zqa, zqb, zqc, zqd]) ?_
       obtain ⟨_, e68, hvK76⟩ := bindS hvK76
       have f70 := ckI e68
       obtain ⟨_, e69, hvK76⟩ := bindS hvK76
       have f71 := ckI e69
       obtain ⟨a72, e73, hvK76⟩ := bindS hvK76
       have f74 := gcI e73
       refine AWp.rd hT hA { tk := [111] } rfl (by (repeat (cbv; simp only [c67, f70, f71, f74])); try cbv) (by kernel_rfl) (lb rfl) ?_
       cases soI hvK76
       exact oWi ⟨_, (Wk.ren [some 0, some 1, some 2, some 3, some 4, some 5, some 6, some 7, some 8, some 9, some 10, some 11, some 12] [0, 6, 7] rfl (by first | (cbv; done) | ((repeat (cbv; simp only [c67])); try cbv))), rfl⟩
      ·replace hvK76 := cF c67 hvK76
       refine zf rfl (by first | rfl | simp only [c67, zqa, zqb, zqc, zqd]) ?_
       refine zk ?_
       cases soI hvK76
       exact oWi ⟨_, (Wk.ren [some 0, some 1, some 2, some 3, some 4, some 5, some 6, some 7, some 8, some 9, some 10, some 11, some 12] [0, 6, 7] rfl (by first | (cbv; done) | ((repeat (cbv; simp only [c67])); try cbv))), rfl⟩
     ·rintro _ rfl
      refine nT (zs ?_)
      obtain ⟨a77, e78, h⟩ := bindS h
      obtain ⟨f79, f80⟩ := gtI e78
      obtain ⟨⟨a81, a82, a83, a84⟩, e85, h⟩ := bindS h
      obtain ⟨f86, f87⟩ := gtI e85
      refine AWp.rd hT hA { tk := [125] } rfl (by (repeat (cbv; simp only [f79, f80, f86, f87])); try cbv) (by kernel_rfl) (lb rfl) ?_
      refine nT (zs ?_)
      refine zg hT hA {} (by cbv) (lb rfl) ?_
      refine nT (zs ?_)
      refine zg hT hA {} (by cbv) (lb rfl) ?_
      refine nT (zs ?_)
      refine zg hT hA {} (by cbv) (lb rfl) ?_
      refine nT (zb (zs ?_))
      refine zg hT hA {} (by cbv) (lb rfl) ?_
      refine nT ?_
      obtain ⟨⟨v229, v230, v231, v232, v233, v234, v235, v236, v237, v238⟩, hvK239, h⟩ := bindS h
      refine AWp.cutW (fun τ => τ = { env := [], heap := [(.cells [(zl 1 x3), (zl 1 x4), (zi v229), (zi v230), (zi v231), (zi v232), (zi v233), (zi v234), (zi v56), (zi x12), (zi x13), (zi x14), (zi x15), (zi x16), (zi x17), (zi x18), (zi v235), (zi v236), (zi v237), (.d (.int .i64 (A.wrp .i64 (A.zadd x22 1)))), (.gref 7 6), (.gref 10 1)]), .dead, .dead, .dead, .dead, .dead, .dead, (.gro 6 v238), .dead, .dead, (.gro 1 v75), .dead, .dead], n := 254 }) ?_ ?_
      ·skip
       rcases tf (A.zeq a81 1) with c88 | c88
       ·replace hvK239 := cT c88 hvK239
        refine zt rfl (by first | rfl | simp only [c88, zqa, zqb, zqc, zqd]) ?_
        obtain ⟨_, e89, hvK239⟩ := bindS hvK239
        have f91 := ckI e89
        obtain ⟨_, e90, hvK239⟩ := bindS hvK239
        have f92 := ckI e90
        obtain ⟨a93, e94, hvK239⟩ := bindS hvK239
        have f95 := gcI e94
        obtain ⟨_, e96, hvK239⟩ := bindS hvK239
        have f98 := ckI e96
        obtain ⟨_, e97, hvK239⟩ := bindS hvK239
        have f99 := ckI e97
        refine AWp.rd hT hA { tk := [149], vx := [148, 151] } rfl (by (repeat (cbv; simp only [c88, f91, f92, f95, f98, f99])); try cbv) (by kernel_rfl) (lb rfl) ?_
        cases soI hvK239
        exact oWi ⟨_, (Wk.ren [some 0, some 1, some 2, some 3, some 4, some 5, some 6, some 7, some 8, some 9, some 10, some 11, some 12] [] rfl (by first | (cbv; done) | ((repeat (cbv; simp only [c88])); try cbv))), rfl⟩
       ·replace hvK239 := cF c88 hvK239
        refine zf rfl (by first | rfl | simp only [c88, zqa, zqb, zqc, zqd]) ?_
        refine zs ?_
        refine zg hT hA {} (by (repeat (cbv; simp only [c88])); try cbv) (lb rfl) ?_
        refine nT ?_
        obtain ⟨⟨v218, v219, v220, v221, v222, v223, v224, v225, v226, v227⟩, hvK228, hvK239⟩ := bindS hvK239
        refine AWp.cutW (fun τ => τ = { env := [], heap := [(.cells [(zl 1 x3), (zl 1 x4), (zi v218), (zi v219), (zi v220), (zi v221), (zi v222), (zi v223), (zi v56), (zi x12), (zi x13), (zi x14), (zi x15), (zi x16), (zi x17), (zi x18), (zi v224), (zi v225), (zi v226), (.d (.int .i64 (A.wrp .i64 (A.zadd x22 1)))), (.gref 7 6), (.gref 10 1)]), .dead, .dead, .dead, .dead, .dead, .dead, (.gro 6 v227), .dead, .dead, (.gro 1 v75), .dead, .dead], n := 254 }) ?_ ?_
        ·skip
         rcases tf (A.zeq a81 2) with c100 | c100
         ·replace hvK228 := cT c100 hvK228
          refine zt rfl (by first | rfl | simp only [c88, c100, zqa, zqb, zqc, zqd]) ?_
          obtain ⟨_, e101, hvK228⟩ := bindS hvK228
          have f103 := ckI e101
          obtain ⟨_, e102, hvK228⟩ := bindS hvK228
          have f104 := ckI e102
          obtain ⟨a105, e106, hvK228⟩ := bindS hvK228
          have f107 := gcI e106
          obtain ⟨_, e108, hvK228⟩ := bindS hvK228
          have f110 := ckI e108
          obtain ⟨_, e109, hvK228⟩ := bindS hvK228
          have f111 := ckI e109
          refine AWp.rd hT hA { tk := [162], vx := [161, 165] } rfl (by (repeat (cbv; simp only [c88, c100, f103, f104, f107, f110, f111])); try cbv) (by kernel_rfl) (lb rfl) ?_
          cases soI hvK228
          exact oWi ⟨_, (Wk.ren [some 0, some 1, some 2, some 3, some 4, some 5, some 6, some 7, some 8, some 9, some 10, some 11, some 12] [] rfl (by first | (cbv; done) | ((repeat (cbv; simp only [c88, c100])); try cbv))), rfl⟩
         ·replace hvK228 := cF c100 hvK228
          refine zf rfl (by first | rfl | simp only [c88, c100, zqa, zqb, zqc, zqd]) ?_
          refine zs ?_
          refine zg hT hA {} (by (repeat (cbv; simp only [c88, c100])); try cbv) (lb rfl) ?_
          refine nT ?_
          obtain ⟨⟨v207, v208, v209, v210, v211, v212, v213, v214, v215, v216⟩, hvK217, hvK228⟩ := bindS hvK228
          refine AWp.cutW (fun τ => τ = { env := [], heap := [(.cells [(zl 1 x3), (zl 1 x4), (zi v207), (zi v208), (zi v209), (zi v210), (zi v211), (zi v212), (zi v56), (zi x12), (zi x13), (zi x14), (zi x15), (zi x16), (zi x17), (zi x18), (zi v213), (zi v214), (zi v215), (.d (.int .i64 (A.wrp .i64 (A.zadd x22 1)))), (.gref 7 6), (.gref 10 1)]), .dead, .dead, .dead, .dead, .dead, .dead, (.gro 6 v216), .dead, .dead, (.gro 1 v75), .dead, .dead], n := 254 }) ?_ ?_
          ·skip
           rcases tf (A.zeq a81 3) with c112 | c112
           ·replace hvK217 := cT c112 hvK217
            refine zt rfl (by first | rfl | simp only [c88, c100, c112, zqa, zqb, zqc, zqd]) ?_
            refine zn ?_
            obtain ⟨⟨r114, r115, r116, r117⟩, e113, hvK217⟩ := bindS hvK217
            refine AOps.cc hT hA {} (by (repeat (cbv; simp only [c88, c100, c112])); try cbv) (lb rfl) (C118w hA e113) rfl (.inl rfl) rfl rfl rfl (lb rfl) rfl rfl ?_
            refine AOps.cd hT hA {} (by (repeat (cbv; simp only [c88, c100, c112])); try cbv) (lb rfl) ?_
            cases soI hvK217
            exact oWi ⟨_, (Wk.ren [some 0, some 1, some 2, some 3, some 4, some 5, some 6, some 7, some 8, some 9, some 10, some 11, some 12] [] rfl (by first | (cbv; done) | ((repeat (cbv; simp only [c88, c100, c112])); try cbv))), rfl⟩
           ·replace hvK217 := cF c112 hvK217
            refine zf rfl (by first | rfl | simp only [c88, c100, c112, zqa, zqb, zqc, zqd]) ?_
            refine zs ?_
            refine zg hT hA {} (by (repeat (cbv; simp only [c88, c100, c112])); try cbv) (lb rfl) ?_
            refine nT ?_
            obtain ⟨⟨v199, v200, v201, v202, v203, v204, v205⟩, hvK206, hvK217⟩ := bindS hvK217
            refine AWp.cutW (fun τ => τ = { env := [], heap := [(.cells [(zl 1 x3), (zl 1 x4), (zi v199), (zi v200), (zi v201), (zi v202), (zi v203), (zi v204), (zi v56), (zi x12), (zi x13), (zi x14), (zi x15), (zi x16), (zi x17), (zi x18), (zi x19), (zi x20), (zi x21), (.d (.int .i64 (A.wrp .i64 (A.zadd x22 1)))), (.gref 7 6), (.gref 10 1)]), .dead, .dead, .dead, .dead, .dead, .dead, (.gro 6 v205), .dead, .dead, (.gro 1 v75), .dead, .dead], n := 254 }) ?_ ?_
            ·skip
             rcases tf (A.zeq a81 4) with c118 | c118
             ·replace hvK206 := cT c118 hvK206
              refine zt rfl (by first | rfl | simp only [c88, c100, c112, c118, zqa, zqb, zqc, zqd]) ?_
              obtain ⟨_, e119, hvK206⟩ := bindS hvK206
              have f121 := ckI e119
              obtain ⟨_, e120, hvK206⟩ := bindS hvK206
              have f122 := ckI e120
              refine AWp.rd hT hA { tk := [178], vx := [180] } rfl (by (repeat (cbv; simp only [c88, c100, c112, c118, f121, f122])); try cbv) (by kernel_rfl) (lb rfl) ?_
              cases soI hvK206
              exact oWi ⟨_, (Wk.ren [some 0, some 1, some 2, some 3, some 4, some 5, some 6, some 7, some 8, some 9, some 10, some 11, some 12] [] rfl (by first | (cbv; done) | ((repeat (cbv; simp only [c88, c100, c112, c118])); try cbv))), rfl⟩
             ·replace hvK206 := cF c118 hvK206
              refine zf rfl (by first | rfl | simp only [c88, c100, c112, c118, zqa, zqb, zqc, zqd]) ?_
              refine zs ?_
              refine zg hT hA {} (by (repeat (cbv; simp only [c88, c100, c112, c118])); try cbv) (lb rfl) ?_
              refine nT ?_
              obtain ⟨⟨v191, v192, v193, v194, v195, v196, v197⟩, hvK198, hvK206⟩ := bindS hvK206
              refine AWp.cutW (fun τ => τ = { env := [], heap := [(.cells [(zl 1 x3), (zl 1 x4), (zi v191), (zi v192), (zi v193), (zi v194), (zi v195), (zi v196), (zi v56), (zi x12), (zi x13), (zi x14), (zi x15), (zi x16), (zi x17), (zi x18), (zi x19), (zi x20), (zi x21), (.d (.int .i64 (A.wrp .i64 (A.zadd x22 1)))), (.gref 7 6), (.gref 10 1)]), .dead, .dead, .dead, .dead, .dead, .dead, (.gro 6 v197), .dead, .dead, (.gro 1 v75), .dead, .dead], n := 254 }) ?_ ?_
              ·skip
               rcases tf (A.zeq a81 5) with c123 | c123
               ·replace hvK198 := cT c123 hvK198
                refine zt rfl (by first | rfl | simp only [c88, c100, c112, c118, c123, zqa, zqb, zqc, zqd]) ?_
                obtain ⟨_, e124, hvK198⟩ := bindS hvK198
                have f126 := ckI e124
                obtain ⟨_, e125, hvK198⟩ := bindS hvK198
                have f127 := ckI e125
                obtain ⟨a128, e129, hvK198⟩ := bindS hvK198
                have f130 := gcI e129
                obtain ⟨_, e131, hvK198⟩ := bindS hvK198
                have f133 := ckI e131
                obtain ⟨_, e132, hvK198⟩ := bindS hvK198
                have f134 := ckI e132
                obtain ⟨a135, e136, hvK198⟩ := bindS hvK198
                have f137 := gcI e136
                obtain ⟨_, e138, hvK198⟩ := bindS hvK198
                have f139 := nkI e138
                obtain ⟨_, e140, hvK198⟩ := bindS hvK198
                have f142 := ckI e140
                obtain ⟨_, e141, hvK198⟩ := bindS hvK198
                have f143 := ckI e141
                refine AWp.rd hT hA { tk := [199], vx := [190, 196, 201] } rfl (by (repeat (cbv; simp only [c88, c100, c112, c118, c123, f126, f127, f130, f133, f134, f137, f139, f142, f143])); try cbv) (by kernel_rfl) (lb rfl) ?_
                cases soI hvK198
                exact oWi ⟨_, (Wk.ren [some 0, some 1, some 2, some 3, some 4, some 5, some 6, some 7, some 8, some 9, some 10, some 11, some 12] [] rfl (by first | (cbv; done) | ((repeat (cbv; simp only [c88, c100, c112, c118, c123])); try cbv))), rfl⟩
               ·replace hvK198 := cF c123 hvK198
                refine zf rfl (by first | rfl | simp only [c88, c100, c112, c118, c123, zqa, zqb, zqc, zqd]) ?_
                refine zs ?_
                refine zg hT hA {} (by (repeat (cbv; simp only [c88, c100, c112, c118, c123])); try cbv) (lb rfl) ?_
                refine nT ?_
                obtain ⟨⟨v187, v188, v189⟩, hvK190, hvK198⟩ := bindS hvK198
                refine AWp.cutW (fun τ => τ = { env := [], heap := [(.cells [(zl 1 x3), (zl 1 x4), (zi v187), (zi v188), (zi v52), (zi v53), (zi v54), (zi v55), (zi v56), (zi x12), (zi x13), (zi x14), (zi x15), (zi x16), (zi x17), (zi x18), (zi x19), (zi x20), (zi x21), (.d (.int .i64 (A.wrp .i64 (A.zadd x22 1)))), (.gref 7 6), (.gref 10 1)]), .dead, .dead, .dead, .dead, .dead, .dead, (.gro 6 v189), .dead, .dead, (.gro 1 v75), .dead, .dead], n := 254 }) ?_ ?_
                ·skip
                 rcases tf (A.zeq a81 6) with c144 | c144
                 ·replace hvK190 := cT c144 hvK190
                  refine zt rfl (by first | rfl | simp only [c88, c100, c112, c118, c123, c144, zqa, zqb, zqc, zqd]) ?_
                  refine zs ?_
                  obtain ⟨_, e145, hvK190⟩ := bindS hvK190
                  have f147 := ckI e145
                  obtain ⟨_, e146, hvK190⟩ := bindS hvK190
                  have f148 := ckI e146
                  obtain ⟨a149, e150, hvK190⟩ := bindS hvK190
                  have f151 := gcI e150
                  refine AWp.rd hT hA { vx := [208] } rfl (by (repeat (cbv; simp only [c88, c100, c112, c118, c123, c144, f147, f148, f151])); try cbv) (by kernel_rfl) (lb rfl) ?_
                  refine nT ?_
                  obtain ⟨v153, hvK154, hvK190⟩ := bindS hvK190
                  refine AWp.cutW (fun τ => τ = { env := [], heap := [(.cells [(zl 1 x3), (zl 1 x4), (zi x5), (zi v153), (zi v52), (zi v53), (zi v54), (zi v55), (zi v56), (zi x12), (zi x13), (zi x14), (zi x15), (zi x16), (zi x17), (zi x18), (zi x19), (zi x20), (zi x21), (.d (.int .i64 (A.wrp .i64 (A.zadd x22 1)))), (.gref 7 6), (.gref 10 1)]), .dead, .dead, .dead, .dead, .dead, .dead, (.gro 6 v57), .dead, .dead, (.gro 1 v75), .dead, .dead], n := 254 }) ?_ ?_
                  ·skip
                   rcases tf (A.zeq a149 0) with c152 | c152
                   ·replace hvK154 := cT c152 hvK154
                    refine zt rfl (by first | rfl | simp only [c88, c100, c112, c118, c123, c144, c152, zqa, zqb, zqc, zqd]) ?_
                    refine zg hT hA {} (by (repeat (cbv; simp only [c88, c100, c112, c118, c123, c144, c152])); try cbv) (lb rfl) ?_
                    cases soI hvK154
                    exact oWi ⟨_, (Wk.ren [some 0, some 1, some 2, some 3, some 4, some 5, some 6, some 7, some 8, some 9, some 10, some 11, some 12] [] rfl (by first | (cbv; done) | ((repeat (cbv; simp only [c88, c100, c112, c118, c123, c144, c152])); try cbv))), rfl⟩
                   ·replace hvK154 := cF c152 hvK154
                    refine zf rfl (by first | rfl | simp only [c88, c100, c112, c118, c123, c144, c152, zqa, zqb, zqc, zqd]) ?_
                    refine zk ?_
                    cases soI hvK154
                    exact oWi ⟨_, (Wk.ren [some 0, some 1, some 2, some 3, some 4, some 5, some 6, some 7, some 8, some 9, some 10, some 11, some 12] [] rfl (by first | (cbv; done) | ((repeat (cbv; simp only [c88, c100, c112, c118, c123, c144, c152])); try cbv))), rfl⟩
                  ·rintro _ rfl
                   cases soI hvK190
                   exact oWi ⟨_, (Wk.ren [some 0, some 1, some 2, some 3, some 4, some 5, some 6, some 7, some 8, some 9, some 10, some 11, some 12] [] rfl (by cbv)), rfl⟩
                 ·replace hvK190 := cF c144 hvK190
                  refine zf rfl (by first | rfl | simp only [c88, c100, c112, c118, c123, c144, zqa, zqb, zqc, zqd]) ?_
                  refine zs ?_
                  refine zg hT hA {} (by (repeat (cbv; simp only [c88, c100, c112, c118, c123, c144])); try cbv) (lb rfl) ?_
                  refine nT ?_
                  obtain ⟨⟨v183, v184, v185⟩, hvK186, hvK190⟩ := bindS hvK190
                  refine AWp.cutW (fun τ => τ = { env := [], heap := [(.cells [(zl 1 x3), (zl 1 x4), (zi v183), (zi v184), (zi v52), (zi v53), (zi v54), (zi v55), (zi v56), (zi x12), (zi x13), (zi x14), (zi x15), (zi x16), (zi x17), (zi x18), (zi x19), (zi x20), (zi x21), (.d (.int .i64 (A.wrp .i64 (A.zadd x22 1)))), (.gref 7 6), (.gref 10 1)]), .dead, .dead, .dead, .dead, .dead, .dead, (.gro 6 v185), .dead, .dead, (.gro 1 v75), .dead, .dead], n := 254 }) ?_ ?_
                  ·skip
                   rcases tf (A.zeq a81 7) with c155 | c155
                   ·replace hvK186 := cT c155 hvK186
                    refine zt rfl (by first | rfl | simp only [c88, c100, c112, c118, c123, c144, c155, zqa, zqb, zqc, zqd]) ?_
                    refine zs ?_
                    obtain ⟨_, e156, hvK186⟩ := bindS hvK186
                    have f158 := ckI e156
                    obtain ⟨_, e157, hvK186⟩ := bindS hvK186
                    have f159 := ckI e157
                    refine AWp.rd hT hA {} rfl (by (repeat (cbv; simp only [c88, c100, c112, c118, c123, c144, c155, f158, f159])); try cbv) (by kernel_rfl) (lb rfl) ?_
                    refine nT (zs ?_)
                    obtain ⟨_, e160, hvK186⟩ := bindS hvK186
                    have f162 := ckI e160
                    obtain ⟨_, e161, hvK186⟩ := bindS hvK186
                    have f163 := ckI e161
                    obtain ⟨a164, e165, hvK186⟩ := bindS hvK186
                    have f166 := gcI e165
                    obtain ⟨⟨a167, a168, a169, a170, a171, a172⟩, e173, hvK186⟩ := bindS hvK186
                    have f174 := gcI e173
                    obtain ⟨⟨a175, a176, a177, a178, a179, a180⟩, e181, hvK186⟩ := bindS hvK186
                    have f182 := gcI e181
                    refine AWp.rd hT hA { vx := [238] } rfl (by (repeat (cbv; simp only [c88, c100, c112, c118, c123, c144, c155, f162, f163, f166, f174, f182])); try cbv) (by kernel_rfl) (lb rfl) ?_
                    refine nT (zs ?_)
                    refine zg hT hA {} (by (repeat (cbv; simp only [c88, c100, c112, c118, c123, c144, c155])); try cbv) (lb rfl) ?_
                    refine nT ?_
                    refine zg hT hA {} (by (repeat (cbv; simp only [c88, c100, c112, c118, c123, c144, c155])); try cbv) (lb rfl) ?_
                    cases soI hvK186
                    exact oWi ⟨_, (Wk.ren [some 0, some 1, some 2, some 3, some 4, some 5, some 6, some 7, some 8, some 9, some 10, some 11, some 12] [] rfl (by first | (cbv; done) | ((repeat (cbv; simp only [c88, c100, c112, c118, c123, c144, c155])); try cbv))), rfl⟩
                   ·replace hvK186 := cF c155 hvK186
                    refine zf rfl (by first | rfl | simp only [c88, c100, c112, c118, c123, c144, c155, zqa, zqb, zqc, zqd]) ?_
                    refine zk ?_
                    cases soI hvK186
                    exact oWi ⟨_, (Wk.ren [some 0, some 1, some 2, some 3, some 4, some 5, some 6, some 7, some 8, some 9, some 10, some 11, some 12] [] rfl (by first | (cbv; done) | ((repeat (cbv; simp only [c88, c100, c112, c118, c123, c144, c155])); try cbv))), rfl⟩
                  ·rintro _ rfl
                   cases soI hvK190
                   exact oWi ⟨_, (Wk.ren [some 0, some 1, some 2, some 3, some 4, some 5, some 6, some 7, some 8, some 9, some 10, some 11, some 12] [] rfl (by cbv)), rfl⟩
                ·rintro _ rfl
                 cases soI hvK198
                 exact oWi ⟨_, (Wk.ren [some 0, some 1, some 2, some 3, some 4, some 5, some 6, some 7, some 8, some 9, some 10, some 11, some 12] [] rfl (by cbv)), rfl⟩
              ·rintro _ rfl
               cases soI hvK206
               exact oWi ⟨_, (Wk.ren [some 0, some 1, some 2, some 3, some 4, some 5, some 6, some 7, some 8, some 9, some 10, some 11, some 12] [] rfl (by cbv)), rfl⟩
            ·rintro _ rfl
             cases soI hvK217
             exact oWi ⟨_, (Wk.ren [some 0, some 1, some 2, some 3, some 4, some 5, some 6, some 7, some 8, some 9, some 10, some 11, some 12] [] rfl (by cbv)), rfl⟩
          ·rintro _ rfl
           cases soI hvK228
           exact oWi ⟨_, (Wk.ren [some 0, some 1, some 2, some 3, some 4, some 5, some 6, some 7, some 8, some 9, some 10, some 11, some 12] [] rfl (by cbv)), rfl⟩
        ·rintro _ rfl
         cases soI hvK239
         exact oWi ⟨_, (Wk.ren [some 0, some 1, some 2, some 3, some 4, some 5, some 6, some 7, some 8, some 9, some 10, some 11, some 12] [] rfl (by cbv)), rfl⟩
      ·rintro _ rfl
       refine nB ?_
       cases soI h
       exact ⟨rfl, rfl, rfl, lb rfl, _, rfl⟩
 ·replace h := cF c25 h
  rcases tf (A.zeq x1 1) with c27 | c27
  ·replace h := cT c27 h
   obtain ⟨f28a, f28b, f28c⟩ := ixF hA (n := 2) c27 (by decide)
   refine zg hT hA {} (by (repeat (cbv; simp only [f28a, f28b, f28c])); try cbv) (lb rfl) ?_
   refine nT (zs ?_)
   obtain ⟨a240, e241, h⟩ := bindS h
   obtain ⟨f242, f243⟩ := gtI e241
   obtain ⟨a244, e245, h⟩ := bindS h
   obtain ⟨f246, f247⟩ := gtI e245
   refine AWp.rd hT hA {} rfl (by (repeat (cbv; simp only [f242, f243, f246, f247])); try cbv) (by kernel_rfl) (lb rfl) ?_
   refine nT (zs (zs ?_))
   obtain ⟨v251, hvK252, h⟩ := bindS h
   refine AWp.cutW (fun τ => τ = { env := [(0, (.ptr 0 0)), (1, (zi x1)), (2, (zl 1 x2)), (6, (.ptr 0 9)), (7, (zi a244)), (39, (.d (.bool v251)))], heap := [(.cells [(zl 1 x3), (zl 1 x4), (zi x5), (zi x6), (zi x7), (zi x8), (zi x9), (zi x10), (zi x11), (zi x12), (zi x13), (zi x14), (zi x15), (zi x16), (zi x17), (zi x18), (zi x19), (zi x20), (zi x21), (zi x22), (.gref 1 6), (.gref 4 1)]), (.gro 6 x23), .dead, .dead, (.gro 1 x24), .dead, .dead], n := 254 }) ?_ ?_
   ·skip
    refine zn ?_
    rcases tf (A.zeq x13 0) with c248 | c248
    ·replace hvK252 := cT c248 hvK252
     obtain ⟨r250, e249, hvK252⟩ := bindS hvK252
     refine AOps.cc hT hA {} (by (repeat (cbv; simp only [c248])); try cbv) (lb rfl) (C116w hA e249) rfl (.inl rfl) rfl rfl rfl (lb rfl) rfl rfl ?_
     refine AOps.cd hT hA {} (by (repeat (cbv; simp only [c248])); try cbv) (lb rfl) ?_
     cases soI hvK252
     exact oWi ⟨_, (Wk.ren [some 0, some 1, some 2, some 3, some 4, some 5, some 6] [0, 1, 2, 6, 7, 39] rfl (by first | (cbv; done) | ((repeat (cbv; simp only [c248])); try cbv))), rfl⟩
    ·replace hvK252 := cF c248 hvK252
     refine AOps.cd hT hA {} (by (repeat (cbv; simp only [c248])); try cbv) (lb rfl) ?_
     cases soI hvK252
     exact oWi ⟨_, (Wk.ren [some 0, some 1, some 2, some 3, some 4, some 5, some 6] [0, 1, 2, 6, 7, 39] rfl (by first | (cbv; done) | ((repeat (cbv; simp only [c248])); try cbv))), rfl⟩
   ·rintro _ rfl
    refine nT ?_
    obtain ⟨⟨v263, v264, v265, v266, v267, v268, v269⟩, hvK270, h⟩ := bindS h
    refine AWp.cutW (fun τ => τ = { env := [(0, (.ptr 0 0)), (2, (zl 1 x2)), (6, (.ptr 0 9)), (7, (zi a244))], heap := [(.cells [(zl 1 x3), (zl 1 x4), (zi x5), (zi x6), (zi x7), (zi x8), (zi x9), (zi x10), (zi x11), (zi x12), (zi x13), (zi v263), (zi v264), (zi v265), (zi v266), (zi v267), (zi x19), (zi x20), (zi x21), (zi x22), (.gref 7 6), (.gref 10 1)]), .dead, .dead, .dead, .dead, .dead, .dead, (.gro 6 v268), .dead, .dead, (.gro 1 v269), .dead, .dead], n := 254 }) ?_ ?_
    ·skip
     rcases tf v251 with c253 | c253
     ·replace hvK270 := cT c253 hvK270
      refine zt rfl (by first | rfl | simp only [c253, zqa, zqb, zqc, zqd]) ?_
      refine zs (zn ?_)
      obtain ⟨_, e254, hvK270⟩ := bindS hvK270
      refine AOps.cc hT hA {} (by (repeat (cbv; simp only [c253])); try cbv) (lb rfl) (C117w hA e254) rfl (.inr rfl) rfl rfl rfl (lb rfl) rfl rfl ?_
      refine AOps.cd hT hA {} (by (repeat (cbv; simp only [c253])); try cbv) (lb rfl) ?_
      refine nT (zs ?_)
      refine zg hT hA {} (by (repeat (cbv; simp only [c253])); try cbv) (lb rfl) ?_
      refine nT (zs ?_)
      obtain ⟨l255, e256, hvK270⟩ := bindS hvK270
      obtain ⟨f257, f258⟩ := apI e256
      refine AWp.rd hT hA { tk := [56, 67] } rfl (by (repeat (cbv; simp only [c253, f257, f258])); try cbv) (by kernel_rfl) (lb rfl) ?_
      refine nT ?_
      refine AWp.weak (Wk.settle 0 20 rfl rfl rfl) ?_
      obtain ⟨l259, e260, hvK270⟩ := bindS hvK270
      obtain ⟨f261, f262⟩ := apI e260
      refine zg hT hA { tk := [74, 76] } (by (repeat (cbv; simp only [c253, f261, f262])); try cbv) (lb rfl) ?_
      cases soI hvK270
      exact oWi ⟨_, (Wk.trans (Wk.settle 0 21 rfl rfl rfl) (Wk.ren [some 0, some 1, some 2, some 3, some 4, some 5, some 6, some 7, some 8, some 9, some 10, some 11, some 12] [0, 2, 6, 7] rfl (by first | (cbv; done) | ((repeat (cbv; simp only [c253])); try cbv)))), rfl⟩
     ·replace hvK270 := cF c253 hvK270
      refine zf rfl (by first | rfl | simp only [c253, zqa, zqb, zqc, zqd]) ?_
      refine zk ?_
      cases soI hvK270
      exact oWi ⟨_, (Wk.ren [some 0, none, none, none, none, none, none, some 1, some 2, some 3, some 4, some 5, some 6] [0, 2, 6, 7] rfl (by first | (cbv; done) | ((repeat (cbv; simp only [c253])); try cbv))), rfl⟩
    ·rintro _ rfl
     refine nT (zs ?_)
     refine zg hT hA {} (by cbv) (lb rfl) ?_
     refine nT (zs (zs ?_))
     obtain ⟨v276, hvK277, h⟩ := bindS h
     refine AWp.cutW (fun τ => τ = { env := [(0, (.ptr 0 0)), (6, (.ptr 0 9)), (7, (zi a244)), (99, (.d (.bool v276)))], heap := [(.cells [(zl 1 x3), (zl 1 x4), (zi x5), (zi x6), (zi x7), (zi x8), (zi x9), (zi x10), (zi x11), (zi x12), (zi x13), (zi v263), (zi v264), (zi v265), (zi v266), (zi v267), (zi x19), (zi x20), (zi x21), (.d (.int .i64 (A.wrp .i64 (A.zadd x22 1)))), (.gref 7 6), (.gref 10 1)]), .dead, .dead, .dead, .dead, .dead, .dead, (.gro 6 v268), .dead, .dead, (.gro 1 v269), .dead, .dead], n := 254 }) ?_ ?_
     ·skip
      rcases tf (A.zlt 0 (A.len x2)) with c271 | c271
      ·replace hvK277 := cT c271 hvK277
       obtain ⟨a272, e273, hvK277⟩ := bindS hvK277
       obtain ⟨f274, f275⟩ := gtI e273
       refine AWp.rd hT hA {} rfl (by (repeat (cbv; simp only [c271, f274, f275])); try cbv) (by kernel_rfl) (lb rfl) ?_
       cases soI hvK277
       exact oWi ⟨_, (Wk.ren [some 0, some 1, some 2, some 3, some 4, some 5, some 6, some 7, some 8, some 9, some 10, some 11, some 12] [0, 6, 7, 99] rfl (by first | (cbv; done) | ((repeat (cbv; simp only [c271])); try cbv))), rfl⟩
      ·replace hvK277 := cF c271 hvK277
       refine AWp.rd hT hA {} rfl (by (repeat (cbv; simp only [c271])); try cbv) (by kernel_rfl) (lb rfl) ?_
       cases soI hvK277
       exact oWi ⟨_, (Wk.ren [some 0, some 1, some 2, some 3, some 4, some 5, some 6, some 7, some 8, some 9, some 10, some 11, some 12] [0, 6, 7, 99] rfl (by first | (cbv; done) | ((repeat (cbv; simp only [c271])); try cbv))), rfl⟩
     ·rintro _ rfl
      refine nT ?_
      obtain ⟨v286, hvK287, h⟩ := bindS h
      refine AWp.cutW (fun τ => τ = { env := [(0, (.ptr 0 0)), (6, (.ptr 0 9)), (7, (zi a244))], heap := [(.cells [(zl 1 x3), (zl 1 x4), (zi x5), (zi x6), (zi x7), (zi x8), (zi x9), (zi x10), (zi x11), (zi x12), (zi x13), (zi v263), (zi v264), (zi v265), (zi v266), (zi v267), (zi x19), (zi x20), (zi x21), (.d (.int .i64 (A.wrp .i64 (A.zadd x22 1)))), (.gref 7 6), (.gref 10 1)]), .dead, .dead, .dead, .dead, .dead, .dead, (.gro 6 v268), .dead, .dead, (.gro 1 v286), .dead, .dead], n := 254 }) ?_ ?_
      ·skip
       rcases tf v276 with c278 | c278
       ·replace hvK287 := cT c278 hvK287
        refine zt rfl (by first | rfl | simp only [c278, zqa, zqb, zqc, zqd]) ?_
        obtain ⟨_, e279, hvK287⟩ := bindS hvK287
        have f281 := ckI e279
        obtain ⟨_, e280, hvK287⟩ := bindS hvK287
        have f282 := ckI e280
        obtain ⟨a283, e284, hvK287⟩ := bindS hvK287
        have f285 := gcI e284
        refine AWp.rd hT hA { tk := [111] } rfl (by (repeat (cbv; simp only [c278, f281, f282, f285])); try cbv) (by kernel_rfl) (lb rfl) ?_
        cases soI hvK287
        exact oWi ⟨_, (Wk.ren [some 0, some 1, some 2, some 3, some 4, some 5, some 6, some 7, some 8, some 9, some 10, some 11, some 12] [0, 6, 7] rfl (by first | (cbv; done) | ((repeat (cbv; simp only [c278])); try cbv))), rfl⟩
       ·replace hvK287 := cF c278 hvK287
        refine zf rfl (by first | rfl | simp only [c278, zqa, zqb, zqc, zqd]) ?_
        refine zk ?_
        cases soI hvK287
        exact oWi ⟨_, (Wk.ren [some 0, some 1, some 2, some 3, some 4, some 5, some 6, some 7, some 8, some 9, some 10, some 11, some 12] [0, 6, 7] rfl (by first | (cbv; done) | ((repeat (cbv; simp only [c278])); try cbv))), rfl⟩
      ·rintro _ rfl
       refine nT (zs ?_)
       obtain ⟨a288, e289, h⟩ := bindS h
       obtain ⟨f290, f291⟩ := gtI e289
       obtain ⟨⟨a292, a293, a294, a295⟩, e296, h⟩ := bindS h
       obtain ⟨f297, f298⟩ := gtI e296
       refine AWp.rd hT hA { tk := [125] } rfl (by (repeat (cbv; simp only [f290, f291, f297, f298])); try cbv) (by kernel_rfl) (lb rfl) ?_
       refine nT (zs ?_)
       refine zg hT hA {} (by cbv) (lb rfl) ?_
       refine nT (zs ?_)
       refine zg hT hA {} (by cbv) (lb rfl) ?_
       refine nT (zs ?_)
       refine zg hT hA {} (by cbv) (lb rfl) ?_
       refine nT (zb (zs ?_))
       refine zg hT hA {} (by cbv) (lb rfl) ?_
       refine nT ?_
       obtain ⟨⟨v440, v441, v442, v443, v444, v445, v446, v447, v448, v449⟩, hvK450, h⟩ := bindS h
       refine AWp.cutW (fun τ => τ = { env := [], heap := [(.cells [(zl 1 x3), (zl 1 x4), (zi x5), (zi x6), (zi x7), (zi x8), (zi x9), (zi x10), (zi x11), (zi v440), (zi v441), (zi v442), (zi v443), (zi v444), (zi v445), (zi v267), (zi v446), (zi v447), (zi v448), (.d (.int .i64 (A.wrp .i64 (A.zadd x22 1)))), (.gref 7 6), (.gref 10 1)]), .dead, .dead, .dead, .dead, .dead, .dead, (.gro 6 v449), .dead, .dead, (.gro 1 v286), .dead, .dead], n := 254 }) ?_ ?_
       ·skip
        rcases tf (A.zeq a292 1) with c299 | c299
        ·replace hvK450 := cT c299 hvK450
         refine zt rfl (by first | rfl | simp only [c299, zqa, zqb, zqc, zqd]) ?_
         obtain ⟨_, e300, hvK450⟩ := bindS hvK450
         have f302 := ckI e300
         obtain ⟨_, e301, hvK450⟩ := bindS hvK450
         have f303 := ckI e301
         obtain ⟨a304, e305, hvK450⟩ := bindS hvK450
         have f306 := gcI e305
         obtain ⟨_, e307, hvK450⟩ := bindS hvK450
         have f309 := ckI e307
         obtain ⟨_, e308, hvK450⟩ := bindS hvK450
         have f310 := ckI e308
         refine AWp.rd hT hA { tk := [149], vx := [148, 151] } rfl (by (repeat (cbv; simp only [c299, f302, f303, f306, f309, f310])); try cbv) (by kernel_rfl) (lb rfl) ?_
         cases soI hvK450
         exact oWi ⟨_, (Wk.ren [some 0, some 1, some 2, some 3, some 4, some 5, some 6, some 7, some 8, some 9, some 10, some 11, some 12] [] rfl (by first | (cbv; done) | ((repeat (cbv; simp only [c299])); try cbv))), rfl⟩
        ·replace hvK450 := cF c299 hvK450
         refine zf rfl (by first | rfl | simp only [c299, zqa, zqb, zqc, zqd]) ?_
         refine zs ?_
         refine zg hT hA {} (by (repeat (cbv; simp only [c299])); try cbv) (lb rfl) ?_
         refine nT ?_
         obtain ⟨⟨v429, v430, v431, v432, v433, v434, v435, v436, v437, v438⟩, hvK439, hvK450⟩ := bindS hvK450
         refine AWp.cutW (fun τ => τ = { env := [], heap := [(.cells [(zl 1 x3), (zl 1 x4), (zi x5), (zi x6), (zi x7), (zi x8), (zi x9), (zi x10), (zi x11), (zi v429), (zi v430), (zi v431), (zi v432), (zi v433), (zi v434), (zi v267), (zi v435), (zi v436), (zi v437), (.d (.int .i64 (A.wrp .i64 (A.zadd x22 1)))), (.gref 7 6), (.gref 10 1)]), .dead, .dead, .dead, .dead, .dead, .dead, (.gro 6 v438), .dead, .dead, (.gro 1 v286), .dead, .dead], n := 254 }) ?_ ?_
         ·skip
          rcases tf (A.zeq a292 2) with c311 | c311
          ·replace hvK439 := cT c311 hvK439
           refine zt rfl (by first | rfl | simp only [c299, c311, zqa, zqb, zqc, zqd]) ?_
           obtain ⟨_, e312, hvK439⟩ := bindS hvK439
           have f314 := ckI e312
           obtain ⟨_, e313, hvK439⟩ := bindS hvK439
           have f315 := ckI e313
           obtain ⟨a316, e317, hvK439⟩ := bindS hvK439
           have f318 := gcI e317
           obtain ⟨_, e319, hvK439⟩ := bindS hvK439
           have f321 := ckI e319
           obtain ⟨_, e320, hvK439⟩ := bindS hvK439
           have f322 := ckI e320
           refine AWp.rd hT hA { tk := [162], vx := [161, 165] } rfl (by (repeat (cbv; simp only [c299, c311, f314, f315, f318, f321, f322])); try cbv) (by kernel_rfl) (lb rfl) ?_
           cases soI hvK439
           exact oWi ⟨_, (Wk.ren [some 0, some 1, some 2, some 3, some 4, some 5, some 6, some 7, some 8, some 9, some 10, some 11, some 12] [] rfl (by first | (cbv; done) | ((repeat (cbv; simp only [c299, c311])); try cbv))), rfl⟩
          ·replace hvK439 := cF c311 hvK439
           refine zf rfl (by first | rfl | simp only [c299, c311, zqa, zqb, zqc, zqd]) ?_
           refine zs ?_
           refine zg hT hA {} (by (repeat (cbv; simp only [c299, c311])); try cbv) (lb rfl) ?_
           refine nT ?_
           obtain ⟨⟨v418, v419, v420, v421, v422, v423, v424, v425, v426, v427⟩, hvK428, hvK439⟩ := bindS hvK439
           refine AWp.cutW (fun τ => τ = { env := [], heap := [(.cells [(zl 1 x3), (zl 1 x4), (zi x5), (zi x6), (zi x7), (zi x8), (zi x9), (zi x10), (zi x11), (zi v418), (zi v419), (zi v420), (zi v421), (zi v422), (zi v423), (zi v267), (zi v424), (zi v425), (zi v426), (.d (.int .i64 (A.wrp .i64 (A.zadd x22 1)))), (.gref 7 6), (.gref 10 1)]), .dead, .dead, .dead, .dead, .dead, .dead, (.gro 6 v427), .dead, .dead, (.gro 1 v286), .dead, .dead], n := 254 }) ?_ ?_
           ·skip
            rcases tf (A.zeq a292 3) with c323 | c323
            ·replace hvK428 := cT c323 hvK428
             refine zt rfl (by first | rfl | simp only [c299, c311, c323, zqa, zqb, zqc, zqd]) ?_
             refine zn ?_
             obtain ⟨⟨r325, r326, r327, r328⟩, e324, hvK428⟩ := bindS hvK428
             refine AOps.cc hT hA {} (by (repeat (cbv; simp only [c299, c311, c323])); try cbv) (lb rfl) (C118aw hA e324) rfl (.inl rfl) rfl rfl rfl (lb rfl) rfl rfl ?_
             refine AOps.cd hT hA {} (by (repeat (cbv; simp only [c299, c311, c323])); try cbv) (lb rfl) ?_
             cases soI hvK428
             exact oWi ⟨_, (Wk.ren [some 0, some 1, some 2, some 3, some 4, some 5, some 6, some 7, some 8, some 9, some 10, some 11, some 12] [] rfl (by first | (cbv; done) | ((repeat (cbv; simp only [c299, c311, c323])); try cbv))), rfl⟩
            ·replace hvK428 := cF c323 hvK428
             refine zf rfl (by first | rfl | simp only [c299, c311, c323, zqa, zqb, zqc, zqd]) ?_
             refine zs ?_
             refine zg hT hA {} (by (repeat (cbv; simp only [c299, c311, c323])); try cbv) (lb rfl) ?_
             refine nT ?_
             obtain ⟨⟨v410, v411, v412, v413, v414, v415, v416⟩, hvK417, hvK428⟩ := bindS hvK428
             refine AWp.cutW (fun τ => τ = { env := [], heap := [(.cells [(zl 1 x3), (zl 1 x4), (zi x5), (zi x6), (zi x7), (zi x8), (zi x9), (zi x10), (zi x11), (zi v410), (zi v411), (zi v412), (zi v413), (zi v414), (zi v415), (zi v267), (zi x19), (zi x20), (zi x21), (.d (.int .i64 (A.wrp .i64 (A.zadd x22 1)))), (.gref 7 6), (.gref 10 1)]), .dead, .dead, .dead, .dead, .dead, .dead, (.gro 6 v416), .dead, .dead, (.gro 1 v286), .dead, .dead], n := 254 }) ?_ ?_
             ·skip
              rcases tf (A.zeq a292 4) with c329 | c329
              ·replace hvK417 := cT c329 hvK417
               refine zt rfl (by first | rfl | simp only [c299, c311, c323, c329, zqa, zqb, zqc, zqd]) ?_
               obtain ⟨_, e330, hvK417⟩ := bindS hvK417
               have f332 := ckI e330
               obtain ⟨_, e331, hvK417⟩ := bindS hvK417
               have f333 := ckI e331
               refine AWp.rd hT hA { tk := [178], vx := [180] } rfl (by (repeat (cbv; simp only [c299, c311, c323, c329, f332, f333])); try cbv) (by kernel_rfl) (lb rfl) ?_
               cases soI hvK417
               exact oWi ⟨_, (Wk.ren [some 0, some 1, some 2, some 3, some 4, some 5, some 6, some 7, some 8, some 9, some 10, some 11, some 12] [] rfl (by first | (cbv; done) | ((repeat (cbv; simp only [c299, c311, c323, c329])); try cbv))), rfl⟩
              ·replace hvK417 := cF c329 hvK417
               refine zf rfl (by first | rfl | simp only [c299, c311, c323, c329, zqa, zqb, zqc, zqd]) ?_
               refine zs ?_
               refine zg hT hA {} (by (repeat (cbv; simp only [c299, c311, c323, c329])); try cbv) (lb rfl) ?_
               refine nT ?_
               obtain ⟨⟨v402, v403, v404, v405, v406, v407, v408⟩, hvK409, hvK417⟩ := bindS hvK417
               refine AWp.cutW (fun τ => τ = { env := [], heap := [(.cells [(zl 1 x3), (zl 1 x4), (zi x5), (zi x6), (zi x7), (zi x8), (zi x9), (zi x10), (zi x11), (zi v402), (zi v403), (zi v404), (zi v405), (zi v406), (zi v407), (zi v267), (zi x19), (zi x20), (zi x21), (.d (.int .i64 (A.wrp .i64 (A.zadd x22 1)))), (.gref 7 6), (.gref 10 1)]), .dead, .dead, .dead, .dead, .dead, .dead, (.gro 6 v408), .dead, .dead, (.gro 1 v286), .dead, .dead], n := 254 }) ?_ ?_
               ·skip
                rcases tf (A.zeq a292 5) with c334 | c334
                ·replace hvK409 := cT c334 hvK409
                 refine zt rfl (by first | rfl | simp only [c299, c311, c323, c329, c334, zqa, zqb, zqc, zqd]) ?_
                 obtain ⟨_, e335, hvK409⟩ := bindS hvK409
                 have f337 := ckI e335
                 obtain ⟨_, e336, hvK409⟩ := bindS hvK409
                 have f338 := ckI e336
                 obtain ⟨a339, e340, hvK409⟩ := bindS hvK409
                 have f341 := gcI e340
                 obtain ⟨_, e342, hvK409⟩ := bindS hvK409
                 have f344 := ckI e342
                 obtain ⟨_, e343, hvK409⟩ := bindS hvK409
                 have f345 := ckI e343
                 obtain ⟨a346, e347, hvK409⟩ := bindS hvK409
                 have f348 := gcI e347
                 obtain ⟨_, e349, hvK409⟩ := bindS hvK409
                 have f350 := nkI e349
                 obtain ⟨_, e351, hvK409⟩ := bindS hvK409
                 have f353 := ckI e351
                 obtain ⟨_, e352, hvK409⟩ := bindS hvK409
                 have f354 := ckI e352
                 refine AWp.rd hT hA { tk := [199], vx := [190, 196, 201] } rfl (by (repeat (cbv; simp only [c299, c311, c323, c329, c334, f337, f338, f341, f344, f345, f348, f350, f353, f354])); try cbv) (by kernel_rfl) (lb rfl) ?_
                 cases soI hvK409
                 exact oWi ⟨_, (Wk.ren [some 0, some 1, some 2, some 3, some 4, some 5, some 6, some 7, some 8, some 9, some 10, some 11, some 12] [] rfl (by first | (cbv; done) | ((repeat (cbv; simp only [c299, c311, c323, c329, c334])); try cbv))), rfl⟩
                ·replace hvK409 := cF c334 hvK409
                 refine zf rfl (by first | rfl | simp only [c299, c311, c323, c329, c334, zqa, zqb, zqc, zqd]) ?_
                 refine zs ?_
                 refine zg hT hA {} (by (repeat (cbv; simp only [c299, c311, c323, c329, c334])); try cbv) (lb rfl) ?_
                 refine nT ?_
                 obtain ⟨⟨v398, v399, v400⟩, hvK401, hvK409⟩ := bindS hvK409
                 refine AWp.cutW (fun τ => τ = { env := [], heap := [(.cells [(zl 1 x3), (zl 1 x4), (zi x5), (zi x6), (zi x7), (zi x8), (zi x9), (zi x10), (zi x11), (zi v398), (zi v399), (zi v263), (zi v264), (zi v265), (zi v266), (zi v267), (zi x19), (zi x20), (zi x21), (.d (.int .i64 (A.wrp .i64 (A.zadd x22 1)))), (.gref 7 6), (.gref 10 1)]), .dead, .dead, .dead, .dead, .dead, .dead, (.gro 6 v400), .dead, .dead, (.gro 1 v286), .dead, .dead], n := 254 }) ?_ ?_
                 ·skip
                  rcases tf (A.zeq a292 6) with c355 | c355
                  ·replace hvK401 := cT c355 hvK401
                   refine zt rfl (by first | rfl | simp only [c299, c311, c323, c329, c334, c355, zqa, zqb, zqc, zqd]) ?_
                   refine zs ?_
                   obtain ⟨_, e356, hvK401⟩ := bindS hvK401
                   have f358 := ckI e356
                   obtain ⟨_, e357, hvK401⟩ := bindS hvK401
                   have f359 := ckI e357
                   obtain ⟨a360, e361, hvK401⟩ := bindS hvK401
                   have f362 := gcI e361
                   refine AWp.rd hT hA { vx := [208] } rfl (by (repeat (cbv; simp only [c299, c311, c323, c329, c334, c355, f358, f359, f362])); try cbv) (by kernel_rfl) (lb rfl) ?_
                   refine nT ?_
                   obtain ⟨v364, hvK365, hvK401⟩ := bindS hvK401
                   refine AWp.cutW (fun τ => τ = { env := [], heap := [(.cells [(zl 1 x3), (zl 1 x4), (zi x5), (zi x6), (zi x7), (zi x8), (zi x9), (zi x10), (zi x11), (zi x12), (zi v364), (zi v263), (zi v264), (zi v265), (zi v266), (zi v267), (zi x19), (zi x20), (zi x21), (.d (.int .i64 (A.wrp .i64 (A.zadd x22 1)))), (.gref 7 6), (.gref 10 1)]), .dead, .dead, .dead, .dead, .dead, .dead, (.gro 6 v268), .dead, .dead, (.gro 1 v286), .dead, .dead], n := 254 }) ?_ ?_
                   ·skip
                    rcases tf (A.zeq a360 0) with c363 | c363
                    ·replace hvK365 := cT c363 hvK365
                     refine zt rfl (by first | rfl | simp only [c299, c311, c323, c329, c334, c355, c363, zqa, zqb, zqc, zqd]) ?_
                     refine zg hT hA {} (by (repeat (cbv; simp only [c299, c311, c323, c329, c334, c355, c363])); try cbv) (lb rfl) ?_
                     cases soI hvK365
                     exact oWi ⟨_, (Wk.ren [some 0, some 1, some 2, some 3, some 4, some 5, some 6, some 7, some 8, some 9, some 10, some 11, some 12] [] rfl (by first | (cbv; done) | ((repeat (cbv; simp only [c299, c311, c323, c329, c334, c355, c363])); try cbv))), rfl⟩
                    ·replace hvK365 := cF c363 hvK365
                     refine zf rfl (by first | rfl | simp only [c299, c311, c323, c329, c334, c355, c363, zqa, zqb, zqc, zqd]) ?_
                     refine zk ?_
                     cases soI hvK365
                     exact oWi ⟨_, (Wk.ren [some 0, some 1, some 2, some 3, some 4, some 5, some 6, some 7, some 8, some 9, some 10, some 11, some 12] [] rfl (by first | (cbv; done) | ((repeat (cbv; simp only [c299, c311, c323, c329, c334, c355, c363])); try cbv))), rfl⟩
                   ·rintro _ rfl
                    cases soI hvK401
                    exact oWi ⟨_, (Wk.ren [some 0, some 1, some 2, some 3, some 4, some 5, some 6, some 7, some 8, some 9, some 10, some 11, some 12] [] rfl (by cbv)), rfl⟩
                  ·replace hvK401 := cF c355 hvK401
                   refine zf rfl (by first | rfl | simp only [c299, c311, c323, c329, c334, c355, zqa, zqb, zqc, zqd]) ?_
                   refine zs ?_
                   refine zg hT hA {} (by (repeat (cbv; simp only [c299, c311, c323, c329, c334, c355])); try cbv) (lb rfl) ?_
                   refine nT ?_
                   obtain ⟨⟨v394, v395, v396⟩, hvK397, hvK401⟩ := bindS hvK401
                   refine AWp.cutW (fun τ => τ = { env := [], heap := [(.cells [(zl 1 x3), (zl 1 x4), (zi x5), (zi x6), (zi x7), (zi x8), (zi x9), (zi x10), (zi x11), (zi v394), (zi v395), (zi v263), (zi v264), (zi v265), (zi v266), (zi v267), (zi x19), (zi x20), (zi x21), (.d (.int .i64 (A.wrp .i64 (A.zadd x22 1)))), (.gref 7 6), (.gref 10 1)]), .dead, .dead, .dead, .dead, .dead, .dead, (.gro 6 v396), .dead, .dead, (.gro 1 v286), .dead, .dead], n := 254 }) ?_ ?_
                   ·skip
                    rcases tf (A.zeq a292 7) with c366 | c366
                    ·replace hvK397 := cT c366 hvK397
                     refine zt rfl (by first | rfl | simp only [c299, c311, c323, c329, c334, c355, c366, zqa, zqb, zqc, zqd]) ?_
                     refine zs ?_
                     obtain ⟨_, e367, hvK397⟩ := bindS hvK397
                     have f369 := ckI e367
                     obtain ⟨_, e368, hvK397⟩ := bindS hvK397
                     have f370 := ckI e368
                     refine AWp.rd hT hA {} rfl (by (repeat (cbv; simp only [c299, c311, c323, c329, c334, c355, c366, f369, f370])); try cbv) (by kernel_rfl) (lb rfl) ?_
                     refine nT (zs ?_)
                     obtain ⟨_, e371, hvK397⟩ := bindS hvK397
                     have f373 := ckI e371
                     obtain ⟨_, e372, hvK397⟩ := bindS hvK397
                     have f374 := ckI e372
                     obtain ⟨a375, e376, hvK397⟩ := bindS hvK397
                     have f377 := gcI e376
                     obtain ⟨⟨a378, a379, a380, a381, a382, a383⟩, e384, hvK397⟩ := bindS hvK397
                     have f385 := gcI e384
                     obtain ⟨⟨a386, a387, a388, a389, a390, a391⟩, e392, hvK397⟩ := bindS hvK397
                     have f393 := gcI e392
                     refine AWp.rd hT hA { vx := [238] } rfl (by (repeat (cbv; simp only [c299, c311, c323, c329, c334, c355, c366, f373, f374, f377, f385, f393])); try cbv) (by kernel_rfl) (lb rfl) ?_
                     refine nT (zs ?_)
                     refine zg hT hA {} (by (repeat (cbv; simp only [c299, c311, c323, c329, c334, c355, c366])); try cbv) (lb rfl) ?_
                     refine nT ?_
                     refine zg hT hA {} (by (repeat (cbv; simp only [c299, c311, c323, c329, c334, c355, c366])); try cbv) (lb rfl) ?_
                     cases soI hvK397
                     exact oWi ⟨_, (Wk.ren [some 0, some 1, some 2, some 3, some 4, some 5, some 6, some 7, some 8, some 9, some 10, some 11, some 12] [] rfl (by first | (cbv; done) | ((repeat (cbv; simp only [c299, c311, c323, c329, c334, c355, c366])); try cbv))), rfl⟩
                    ·replace hvK397 := cF c366 hvK397
                     refine zf rfl (by first | rfl | simp only [c299, c311, c323, c329, c334, c355, c366, zqa, zqb, zqc, zqd]) ?_
                     refine zk ?_
                     cases soI hvK397
                     exact oWi ⟨_, (Wk.ren [some 0, some 1, some 2, some 3, some 4, some 5, some 6, some 7, some 8, some 9, some 10, some 11, some 12] [] rfl (by first | (cbv; done) | ((repeat (cbv; simp only [c299, c311, c323, c329, c334, c355, c366])); try cbv))), rfl⟩
                   ·rintro _ rfl
                    cases soI hvK401
                    exact oWi ⟨_, (Wk.ren [some 0, some 1, some 2, some 3, some 4, some 5, some 6, some 7, some 8, some 9, some 10, some 11, some 12] [] rfl (by cbv)), rfl⟩
                 ·rintro _ rfl
                  cases soI hvK409
                  exact oWi ⟨_, (Wk.ren [some 0, some 1, some 2, some 3, some 4, some 5, some 6, some 7, some 8, some 9, some 10, some 11, some 12] [] rfl (by cbv)), rfl⟩
               ·rintro _ rfl
                cases soI hvK417
                exact oWi ⟨_, (Wk.ren [some 0, some 1, some 2, some 3, some 4, some 5, some 6, some 7, some 8, some 9, some 10, some 11, some 12] [] rfl (by cbv)), rfl⟩
             ·rintro _ rfl
              cases soI hvK428
              exact oWi ⟨_, (Wk.ren [some 0, some 1, some 2, some 3, some 4, some 5, some 6, some 7, some 8, some 9, some 10, some 11, some 12] [] rfl (by cbv)), rfl⟩
           ·rintro _ rfl
            cases soI hvK439
            exact oWi ⟨_, (Wk.ren [some 0, some 1, some 2, some 3, some 4, some 5, some 6, some 7, some 8, some 9, some 10, some 11, some 12] [] rfl (by cbv)), rfl⟩
         ·rintro _ rfl
          cases soI hvK450
          exact oWi ⟨_, (Wk.ren [some 0, some 1, some 2, some 3, some 4, some 5, some 6, some 7, some 8, some 9, some 10, some 11, some 12] [] rfl (by cbv)), rfl⟩
       ·rintro _ rfl
        refine nB ?_
        cases soI h
        exact ⟨rfl, rfl, rfl, lb rfl, _, rfl⟩
  ·replace h := cF c27 h
   cases h
end Go.Am
