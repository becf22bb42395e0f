/- Own text: Genp0. -/
import Derived.Test.YtlpolnmadfmphaaAmLaw
set_option maxRecDepth 100000
set_option maxHeartbeats 2000000
set_option linter.unusedVariables false
set_option linter.unusedSimpArgs false
namespace Go.Am
open Go
noncomputable def H17L0 (A : Ar) (a46 : List D) : Int → Option ((Int) ⊕ ((Unit) ⊕ (Unit))) := fun v61 =>
  bif (A.zlt v61 (A.len a46)) then
    (gt A (cL 1) a46 v61).bind fun a63 =>
    bif (A.zlt 20 (A.len a63)) then
      some (.inr (.inr ()))
    else
      some (.inl (A.wrp .i64 (A.zadd v61 1)))
  else
    some (.inr (.inl ()))

noncomputable def H17L1 (A : Ar) (a47 : List D) : Int → Option ((Int) ⊕ ((Unit) ⊕ (Unit))) := fun v75 =>
  bif (A.zlt v75 (A.len a47)) then
    (gt A (cL 1) a47 v75).bind fun a77 =>
    bif (A.zlt 20 (A.len a77)) then
      some (.inr (.inr ()))
    else
      some (.inl (A.wrp .i64 (A.zadd v75 1)))
  else
    some (.inr (.inl ()))

noncomputable def H17L2 (A : Ar) (x1 : List D) : Int → Option ((Int) ⊕ ((Unit) ⊕ (Unit))) := fun v42 =>
  bif (A.zlt v42 (A.len x1)) then
    (gt A (cG (lc (cI .i64) (lc (cI .i64) (lc (cL 1) (l1 (cL 1)))))) x1 v42).bind fun (a44, a45, a46, a47) =>
    (
      bif (A.zlt 20 (A.len a46)) then
        some true
      else
        some (A.zlt 20 (A.len a47))).bind fun v52 =>
    bif v52 then
      some (.inr (.inr ()))
    else
      (iter (H17L0 A a46) 0).bind (Sum.elim (fun _ =>
        (iter (H17L1 A a47) 0).bind (Sum.elim (fun _ =>
          some (.inl (A.wrp .i64 (A.zadd v42 1)))) (fun _ =>
          some (.inr (.inr ()))))) (fun _ =>
        some (.inr (.inr ()))))
  else
    some (.inr (.inl ()))

/-- lineal lineallaw02.Large -/
noncomputable def H17 (A : Ar) (x1 : List D) : Option (Bool) :=
  (iter (H17L2 A x1) 0).bind (Sum.elim (fun _ =>
    some (A.zlt 5 (A.len x1))) (fun _ =>
    some true))

/-- lineal lineallaw02.Long -/
noncomputable def H18 (A : Ar) (x1 : List D) : Option (Bool) :=
  some (A.zlt 40 (A.len x1))

/-- lineal history.between -/
noncomputable def H77 (A : Ar) (x1 : Int) (x2 : Int) (x3 : Int) : Option (Bool) :=
  (
    bif (A.zle x1 x2) then
      some (A.zle x2 x3)
    else
      some false).bind fun v5 =>
  some v5

/-- lineal spec.between -/
noncomputable def H120 (A : Ar) (x1 : Int) (x2 : Int) (x3 : Int) : Option (Bool) :=
  (
    bif (A.zle x1 x2) then
      some (A.zle x2 x3)
    else
      some false).bind fun v5 =>
  some v5

/-- lineal spec.table$1$1 -/
noncomputable def H129 (A : Ar) (x1 : Int) (x2 : Int) (x3 : Int) (x4 : List D) (x5 : List D) (x6 : Int) : Option (Bool) :=
  (H120 A 0 x1 x6).bind fun r8 =>
  some (!r8)

noncomputable def H131L0 (A : Ar) (x1 : List D) (x2 : Int) (x3 : Int) (x4 : List D) (x5 : List D) (x6 : Int) : Int → Option ((Int) ⊕ ((Unit) ⊕ (Int))) := fun v15 =>
  bif (A.zlt v15 (A.len x1)) then
    (gt A (cI .i64) x1 v15).bind fun a17 =>
    (H129 A a17 x2 x3 x4 x5 x6).bind fun r22 =>
    bif r22 then
      some (.inr (.inr v15))
    else
      some (.inl (A.wrp .i64 (A.zadd v15 1)))
  else
    some (.inr (.inl ()))

/-- slices.IndexFunc   int int  -/
noncomputable def H131 (A : Ar) (x1 : List D) (x2 : Int) (x3 : Int) (x4 : List D) (x5 : List D) (x6 : Int) : Option (Int) :=
  (iter (H131L0 A x1 x2 x3 x4 x5 x6) 0).bind (Sum.elim (fun _ =>
    some (-1)) (fun v24 =>
    some v24))

/-- slices.ContainsFunc   int int  -/
noncomputable def H128 (A : Ar) (x1 : List D) (x2 : Int) (x3 : Int) (x4 : List D) (x5 : List D) (x6 : Int) : Option (Bool) :=
  (H131 A x1 x2 x3 x4 x5 x6).bind fun r8 =>
  some (A.zle 0 r8)

/-- lineal spec.table$1 -/
noncomputable def H127 (A : Ar) (x1 : List D) (x2 : Int) (x3 : Int) (x4 : List D) (x5 : List D) (x6 : Int) : Option (Bool) :=
  (
    bif (A.zeq (A.len x1) x3) then
      (H128 A x1 x2 x3 x4 x5 x6).bind fun r9 =>
      some r9
    else
      some true).bind fun v10 =>
  some v10

noncomputable def H130L0 (A : Ar) (x1 : List D) (x2 : Int) (x3 : Int) (x4 : List D) (x5 : List D) (x6 : Int) : Int → Option ((Int) ⊕ ((Unit) ⊕ (Int))) := fun v15 =>
  bif (A.zlt v15 (A.len x1)) then
    (gt A (cL 1) x1 v15).bind fun a17 =>
    (H127 A a17 x2 x3 x4 x5 x6).bind fun r22 =>
    bif r22 then
      some (.inr (.inr v15))
    else
      some (.inl (A.wrp .i64 (A.zadd v15 1)))
  else
    some (.inr (.inl ()))

/-- slices.IndexFunc     int   int  -/
noncomputable def H130 (A : Ar) (x1 : List D) (x2 : Int) (x3 : Int) (x4 : List D) (x5 : List D) (x6 : Int) : Option (Int) :=
  (iter (H130L0 A x1 x2 x3 x4 x5 x6) 0).bind (Sum.elim (fun _ =>
    some (-1)) (fun v24 =>
    some v24))

/-- slices.ContainsFunc     int   int  -/
noncomputable def H126 (A : Ar) (x1 : List D) (x2 : Int) (x3 : Int) (x4 : List D) (x5 : List D) (x6 : Int) : Option (Bool) :=
  (H130 A x1 x2 x3 x4 x5 x6).bind fun r8 =>
  some (A.zle 0 r8)

/-- lineal spec.table -/
noncomputable def H121 (A : Ar) (x1 : Int) (x2 : Int) (x3 : List D) (x4 : List D) (x5 : List D) (x6 : Int) : Option (Bool) :=
  (
    bif (A.zeq (A.len x5) x1) then
      (H126 A x5 x1 x2 x3 x4 x6).bind fun r9 =>
      some (!r9)
    else
      some false).bind fun v10 =>
  some v10

/-- lineal spec.Valid -/
noncomputable def H111 (A : Ar) (x1 : Int) (x2 : Int) (x3 : List D) (x4 : List D) : Option (Bool) :=
  (
    (H120 A 1 x1 8).bind fun r6 =>
    bif r6 then
      (H120 A 1 x2 4).bind fun r9 =>
      bif r9 then
        (H121 A x1 x2 x3 x4 x3 (A.wrp .i64 (A.zsub x1 1))).bind fun r12 =>
        bif r12 then
          (H121 A x1 x2 x3 x4 x4 5).bind fun r15 =>
          some r15
        else
          some false
      else
        some false
    else
      some false).bind fun v16 =>
  some v16

/-- lineal history.areSpecs$1 -/
noncomputable def H110 (A : Ar) (x1 : Int) (x2 : Int) (x3 : List D) (x4 : List D) : Option (Bool) :=
  (H111 A x1 x2 x3 x4).bind fun r6 =>
  some (!r6)

noncomputable def H119L0 (A : Ar) (x1 : List D) : Int → Option ((Int) ⊕ ((Unit) ⊕ (Int))) := fun v13 =>
  bif (A.zlt v13 (A.len x1)) then
    (gt A (cG (lc (cI .i64) (lc (cI .i64) (lc (cL 1) (l1 (cL 1)))))) x1 v13).bind fun (a15, a16, a17, a18) =>
    (H110 A a15 a16 a17 a18).bind fun r23 =>
    bif r23 then
      some (.inr (.inr v13))
    else
      some (.inl (A.wrp .i64 (A.zadd v13 1)))
  else
    some (.inr (.inl ()))

/-- slices.IndexFunc   lineal api.Spec lineal api.Spec  -/
noncomputable def H119 (A : Ar) (x1 : List D) : Option (Int) :=
  (iter (H119L0 A x1) 0).bind (Sum.elim (fun _ =>
    some (-1)) (fun v25 =>
    some v25))

/-- slices.ContainsFunc   lineal api.Spec lineal api.Spec  -/
noncomputable def H109 (A : Ar) (x1 : List D) : Option (Bool) :=
  (H119 A x1).bind fun r3 =>
  some (A.zle 0 r3)

/-- lineal history.areSpecs -/
noncomputable def H58 (A : Ar) (x1 : List D) : Option (Bool) :=
  (
    (H77 A 1 (A.len x1) 2).bind fun r3 =>
    bif r3 then
      (H109 A x1).bind fun r6 =>
      some (!r6)
    else
      some false).bind fun v7 =>
  some v7

/-- lineal history.isCall -/
noncomputable def H69 (A : Ar) (x1 : Int) (x2 : Int) (x3 : Int) (x4 : Int) (x5 : Int) (x6 : Int) : Option (Bool) :=
  (
    (H77 A 0 x1 3).bind fun r8 =>
    bif r8 then
      (H77 A 0 x2 1).bind fun r11 =>
      bif r11 then
        (H77 A 0 x3 3).bind fun r14 =>
        bif r14 then
          (H77 A 0 x4 9).bind fun r17 =>
          bif r17 then
            (H77 A 1 x5 100).bind fun r20 =>
            some r20
          else
            some false
        else
          some false
      else
        some false
    else
      some false).bind fun v21 =>
  bif (A.zeq x6 0) then
    (
      bif v21 then
        some (A.zeq x4 0)
      else
        some false).bind fun v25 =>
    some v25
  else
    (
      bif v21 then
        (H77 A 2 x6 100).bind fun r29 =>
        bif r29 then
          some (A.zlt x5 x6)
        else
          some false
      else
        some false).bind fun v31 =>
    some v31

/-- lineal history.before -/
noncomputable def H66 (A : Ar) (x1 : Int) (x2 : Int) (x3 : Int) (x4 : Int) (x5 : Int) (x6 : Int) (x7 : Int) (x8 : Int) (x9 : Int) (x10 : Int) (x11 : Int) (x12 : Int) : Option (Bool) :=
  (
    bif (A.zlt 0 x6) then
      some (A.zlt x6 x11)
    else
      some false).bind fun v14 =>
  some v14

noncomputable def H24L0 (A : Ar) (a98 : Int) (a99 : Int) (a100 : Int) (a101 : Int) (a102 : Int) (a103 : Int) (l143 : List D) : Int → Option ((Int) ⊕ ((Unit) ⊕ (Unit))) := fun v168 =>
  bif (A.zlt v168 (A.len l143)) then
    (gt A (cG (lc (cI .i64) (lc (cI .i64) (lc (cI .i64) (lc (cI .i64) (lc (cI .i64) (l1 (cI .i64)))))))) l143 v168).bind fun (a170, a171, a172, a173, a174, a175) =>
    (
      bif (A.zeq a98 a170) then
        (H66 A a98 a99 a100 a101 a102 a103 a170 a171 a172 a173 a174 a175).bind fun r181 =>
        bif r181 then
          some false
        else
          (H66 A a170 a171 a172 a173 a174 a175 a98 a99 a100 a101 a102 a103).bind fun r184 =>
          some (!r184)
      else
        some false).bind fun v185 =>
    bif v185 then
      some (.inr (.inr ()))
    else
      some (.inl (A.wrp .i64 (A.zadd v168 1)))
  else
    some (.inr (.inl ()))

noncomputable def H24L1 (A : Ar) (x1 : List D) : (Int × List D) → Option ((Int × List D) ⊕ ((List D) ⊕ (List D))) := fun (v95, v96) =>
  bif (A.zlt v95 (A.len x1)) then
    (gt A (cG (lc (cI .i64) (lc (cI .i64) (lc (cI .i64) (lc (cI .i64) (lc (cI .i64) (l1 (cI .i64)))))))) x1 v95).bind fun (a98, a99, a100, a101, a102, a103) =>
    (
      (H69 A a98 a99 a100 a101 a102 a103).bind fun r108 =>
      bif r108 then
        (ck (A.zle 0 a102)).bind fun _ =>
        (ck (A.zlt a102 (Int.ofNat 101))).bind fun _ =>
        (gc A cB v96 (A.nat (A.zadd 0 (A.zmul a102 (Int.ofNat 1))))).bind fun a114 =>
        some a114
      else
        some true).bind fun v117 =>
    bif v117 then
      some (.inr (.inr v96))
    else
      (ck (A.zle 0 a102)).bind fun _ =>
      (ck (A.zlt a102 (Int.ofNat 101))).bind fun _ =>
      (A.lget v96 (A.nat (A.zadd 0 (A.zmul a102 (Int.ofNat 1))))).bind fun d124 =>
      jn (fun (v141 : List D) =>
        (sl A x1 0 v95).bind fun l143 =>
        (iter (H24L0 A a98 a99 a100 a101 a102 a103 l143) 0).bind (Sum.elim (fun _ =>
          some (.inl ((A.wrp .i64 (A.zadd v95 1)), v141))) (fun _ =>
          some (.inr (.inr v141))))) fun K142 =>
        bif (A.zlt 0 a103) then
          (ck (A.zle 0 a103)).bind fun _ =>
          (ck (A.zlt a103 (Int.ofNat 101))).bind fun _ =>
          (gc A cB (A.lset v96 (A.nat (A.zadd 0 (A.zmul a102 (Int.ofNat 1)))) (.bool true)) (A.nat (A.zadd 0 (A.zmul a103 (Int.ofNat 1))))).bind fun a131 =>
          bif a131 then
            some (.inr (.inr (A.lset v96 (A.nat (A.zadd 0 (A.zmul a102 (Int.ofNat 1)))) (.bool true))))
          else
            (ck (A.zle 0 a103)).bind fun _ =>
            (ck (A.zlt a103 (Int.ofNat 101))).bind fun _ =>
            (A.lget (A.lset v96 (A.nat (A.zadd 0 (A.zmul a102 (Int.ofNat 1)))) (.bool true)) (A.nat (A.zadd 0 (A.zmul a103 (Int.ofNat 1))))).bind fun d139 =>
            K142 (A.lset (A.lset v96 (A.nat (A.zadd 0 (A.zmul a102 (Int.ofNat 1)))) (.bool true)) (A.nat (A.zadd 0 (A.zmul a103 (Int.ofNat 1)))) (.bool true))
        else
          K142 (A.lset v96 (A.nat (A.zadd 0 (A.zmul a102 (Int.ofNat 1)))) (.bool true))
  else
    some (.inr (.inl v96))

/-- lineal history.Valid -/
noncomputable def H24 (A : Ar) (x1 : List D) : Option (Bool) :=
  bif (A.zlt 8 (A.len x1)) then
    some false
  else
    (iter (H24L1 A x1) (0, (A.rep (Int.ofNat 101) (.bool false)))).bind (Sum.elim (fun v189 =>
      some true) (fun v190 =>
      some false))

/-- lineal history.fits$1 -/
noncomputable def H113 (A : Ar) (x1 : Int) (x2 : Int) (x3 : Int) (x4 : Int) (x5 : Int) (x6 : Int) (x7 : List D) : Option (Bool) :=
  (
    bif (A.zle (A.len x7) x2) then
      some true
    else
      (gt A (cG (lc (cI .i64) (lc (cI .i64) (lc (cL 1) (l1 (cL 1)))))) x7 x2).bind fun (a9, a10, a11, a12) =>
      some (A.zle a10 x3)).bind fun v16 =>
  some v16

noncomputable def H122L0 (A : Ar) (x1 : List D) (x2 : List D) : Int → Option ((Int) ⊕ ((Unit) ⊕ (Int))) := fun v16 =>
  bif (A.zlt v16 (A.len x1)) then
    (gt A (cG (lc (cI .i64) (lc (cI .i64) (lc (cI .i64) (lc (cI .i64) (lc (cI .i64) (l1 (cI .i64)))))))) x1 v16).bind fun (a18, a19, a20, a21, a22, a23) =>
    (H113 A a18 a19 a20 a21 a22 a23 x2).bind fun r28 =>
    bif r28 then
      some (.inr (.inr v16))
    else
      some (.inl (A.wrp .i64 (A.zadd v16 1)))
  else
    some (.inr (.inl ()))

/-- slices.IndexFunc   lineal api.Call lineal api.Call  -/
noncomputable def H122 (A : Ar) (x1 : List D) (x2 : List D) : Option (Int) :=
  (iter (H122L0 A x1 x2) 0).bind (Sum.elim (fun _ =>
    some (-1)) (fun v30 =>
    some v30))

/-- slices.ContainsFunc   lineal api.Call lineal api.Call  -/
noncomputable def H112 (A : Ar) (x1 : List D) (x2 : List D) : Option (Bool) :=
  (H122 A x1 x2).bind fun r4 =>
  some (A.zle 0 r4)

/-- lineal history.fits -/
noncomputable def H59 (A : Ar) (x1 : List D) (x2 : List D) : Option (Bool) :=
  (H112 A x2 x1).bind fun r4 =>
  some (!r4)

/-- lineal history.For -/
noncomputable def H20 (A : Ar) (x1 : List D) (x2 : List D) : Option (Bool × Int) :=
  (H58 A x1).bind fun r4 =>
  bif r4 then
    (
      (H24 A x2).bind fun r7 =>
      bif r7 then
        (H59 A x1 x2).bind fun r10 =>
        some r10
      else
        some false).bind fun v11 =>
    some (v11, 0)
  else
    some (false, 10)

/-- lineal history.checked -/
noncomputable def H71 (A : Ar) (x1 : List D) (x2 : List D) : Option (Int) :=
  (H20 A x1 x2).bind fun (r4, r5) =>
  (
    bif (A.zeq r5 0) then
      some (!r4)
    else
      some false).bind fun v7 =>
  (
    bif v7 then
      some 20
    else
      some r5).bind fun v10 =>
  some v10

/-- lineal history.newSearch -/
noncomputable def H72 (A : Ar) (x1 : List D) (x2 : List D) : Option (List D × List D) :=
  some (x1, x2)

/--  lineal history.set .has -/
noncomputable def H124a (A : Ar) (x1 : Int) (x2 : Int) : Option (Bool) :=
  (nk (A.zlt x2 0)).bind fun _ =>
  some (A.zeq (A.bits .and .u8 (A.shr .u8 x1 x2) 1) 1)

noncomputable def H115aL0 (A : Ar) (x1 : Int) (x6 : List D) : Int → Option ((Int) ⊕ ((Unit) ⊕ (Unit))) := fun v23 =>
  bif (A.zlt v23 (A.len x6)) then
    (gt A (cG (lc (cI .i64) (lc (cI .i64) (lc (cI .i64) (lc (cI .i64) (lc (cI .i64) (l1 (cI .i64)))))))) x6 v23).bind fun (a25, a26, a27, a28, a29, a30) =>
    (
      bif (A.zlt 0 a30) then
        (H124a A x1 v23).bind fun r36 =>
        some (!r36)
      else
        some false).bind fun v37 =>
    bif v37 then
      some (.inr (.inr ()))
    else
      some (.inl (A.wrp .i64 (A.zadd v23 1)))
  else
    some (.inr (.inl ()))

/--  *lineal history.search .ends -/
noncomputable def H115a (A : Ar) (x1 : Int) (x2 : Int) (x3 : Int) (x4 : List (D × D)) (x5 : List D) (x6 : List D) : Option (Bool) :=
  (iter (H115aL0 A x1 x6) 0).bind (Sum.elim (fun _ =>
    some true) (fun _ =>
    some false))

/--  *lineal history.search .next -/
noncomputable def H116c (A : Ar) (x1 : Int) (x2 : Int) (x3 : Int) (x4 : List (D × D)) (x5 : List D) (x6 : List D) (x7 : Int) : Option (Int × Int × Int) :=
  some (x1, x2, x3)

/--  lineal history.states .does -/
noncomputable def H78a (A : Ar) (x1 : Int) (x2 : Int) (x3 : List D) (x4 : Int) (x5 : Int) (x6 : Int) (x7 : Int) (x8 : Int) (x9 : Int) : Option (Int × Int × Bool) :=
  (
    (gt A (cG (lc (cI .i64) (lc (cI .i64) (lc (cL 1) (l1 (cL 1)))))) x3 x5).bind fun (a10, a11, a12, a13) =>
    bif (A.zeq x5 0) then
      some (a10, a11, a12, a13, x1)
    else
      bif (A.zeq x5 1) then
        some (a10, a11, a12, a13, x2)
      else
        none).bind fun (v21, v22, v23, v24, v25) =>
  (
    (gt A (cL 1) v23 v25).bind fun a27 =>
    (gt A (cI .i64) a27 x6).bind fun a31 =>
    bif (A.zeq x5 0) then
      some (a31, x2)
    else
      bif (A.zeq x5 1) then
        some (x1, a31)
      else
        none).bind fun (v39, v40) =>
  (
    bif (A.zeq x9 0) then
      some true
    else
      (gt A (cL 1) v24 v25).bind fun a43 =>
      (gt A (cI .i64) a43 x6).bind fun a47 =>
      some (A.zeq a47 x7)).bind fun v51 =>
  some (v39, v40, v51)

noncomputable def H125aL0 (A : Ar) (x3 : List D) (x5 : Int) (a78 : Int) (a79 : Int) (a80 : Int) (a81 : Int) (a82 : Int) (a83 : Int) : (Bool × Int) → Option ((Bool × Int) ⊕ (Bool)) := fun (v107, v108) =>
  bif (A.zlt v108 (A.len x3)) then
    (gt A (cG (lc (cI .i64) (lc (cI .i64) (lc (cI .i64) (lc (cI .i64) (lc (cI .i64) (l1 (cI .i64)))))))) x3 v108).bind fun (a110, a111, a112, a113, a114, a115) =>
    (
      bif v107 then
        (H124a A x5 v108).bind fun r121 =>
        bif r121 then
          some true
        else
          (H66 A a110 a111 a112 a113 a114 a115 a78 a79 a80 a81 a82 a83).bind fun r124 =>
          some (!r124)
      else
        some false).bind fun v125 =>
    some (.inl (v125, (A.wrp .i64 (A.zadd v108 1))))
  else
    some (.inr v107)

noncomputable def H125aL1 (A : Ar) (x2 : List D) (x3 : List D) (x5 : Int) (x6 : Int) (x7 : Int) (self31 : Int → Int → Int → (List (D × D)) → List D → List D → (Option (Int × List (D × D)))) : (Int × List (D × D) × Int) → Option ((Int × List (D × D) × Int) ⊕ (List (D × D) × Int)) := fun (v74, v75, v76) =>
  bif (A.zlt v74 (A.len x3)) then
    (
      (gt A (cG (lc (cI .i64) (lc (cI .i64) (lc (cI .i64) (lc (cI .i64) (lc (cI .i64) (l1 (cI .i64)))))))) x3 v74).bind fun (a78, a79, a80, a81, a82, a83) =>
      (H124a A x5 v74).bind fun r88 =>
      (iter (H125aL0 A x3 x5 a78 a79 a80 a81 a82 a83) ((!r88), 0)).bind (fun v127 =>
      bif v127 then
        (H78a A x6 x7 x2 a78 a79 a80 a81 a82 a83).bind fun (r131, r132, r133) =>
        (
          bif r133 then
            (nk (A.zlt v74 0)).bind fun _ =>
            (
              (self31 (A.bits .or .u8 x5 (A.shl .u8 1 v74)) r131 r132 v75 x2 x3).bind fun (r139, r140) =>
              some (r140, (A.wrp .i64 (A.zadd v76 r139)))).bind (fun (v142, v143) =>
            some (v142, v143))
          else
            some (v75, v76)).bind fun (v146, v147) =>
        some (v146, v147)
      else
        some (v75, v76))).bind fun (v149, v150) =>
    some (.inl ((A.wrp .i64 (A.zadd v74 1)), v149, v150))
  else
    some (.inr (v75, v76))

/--  *lineal history.search .next$1 -/
noncomputable def H125a (A : Ar) (self31 : Int → Int → Int → (List (D × D)) → List D → List D → (Option (Int × List (D × D)))) (x1 : List (D × D)) (x2 : List D) (x3 : List D) (x4 : Int) (x5 : Int) (x6 : Int) (x7 : Int) : Option (List (D × D) × Int) :=
  (iter (H125aL1 A x2 x3 x5 x6 x7 self31) (0, x1, x4)).bind (fun (v152, v153) =>
  some (v152, v153))

/--  *lineal history.search .count -/
noncomputable def H74B (A : Ar) (self31 : Int → Int → Int → (List (D × D)) → List D → List D → (Option (Int × List (D × D)))) (x1 : Int) (x2 : Int) (x3 : Int) (x4 : List (D × D)) (x5 : List D) (x6 : List D) : Option (Int × List (D × D)) :=
  (
    (lk A (cI .i64) x4 (.agg [(.int .u8 x1), (.int .i64 x2), (.int .i64 x3)])).bind fun o10 => o10.elim (
      some (0, false)) fun a7 =>
    some (a7, true)).bind fun (v11, v12) =>
  bif v12 then
    some (v11, x4)
  else
    (H115a A x1 x2 x3 x4 x5 x6).bind fun r16 =>
    (
      bif r16 then
        some 1
      else
        some 0).bind fun v18 =>
    (H116c A x1 x2 x3 x4 x5 x6 v18).bind fun (r21, r22, r23) =>
    (H125a A self31 x4 x5 x6 v18 r21 r22 r23).bind fun (r25, r26) =>
    some (r26, (A.mput r25 (.agg [(.int .u8 x1), (.int .i64 x2), (.int .i64 x3)]) (.int .i64 r26)))

noncomputable def H74R (A : Ar) : Nat → Int → Int → Int → (List (D × D)) → List D → List D → (Option (Int × List (D × D)))
  | 0 => fun _ _ _ _ _ _ => none
  | n + 1 => fun x1 x2 x3 x4 x5 x6 => H74B A (H74R A n) x1 x2 x3 x4 x5 x6

noncomputable def H74 (A : Ar) (x1 : Int) (x2 : Int) (x3 : Int) (x4 : List (D × D)) (x5 : List D) (x6 : List D) : Option (Int × List (D × D)) := H74R A fuel x1 x2 x3 x4 x5 x6

/--  *lineal history.search .next -/
noncomputable def H116d (A : Ar) (x1 : Int) (x2 : Int) (x3 : Int) (x4 : List (D × D)) (x5 : List D) (x6 : List D) (x7 : Int) (x8 : Int) (x9 : Int) (x10 : List D) : Option (Int × Int × Int) :=
  some (x1, x2, x3)

noncomputable def H125bL0 (A : Ar) (x3 : List D) (x8 : Int) (a91 : Int) (a92 : Int) (a93 : Int) (a94 : Int) (a95 : Int) (a96 : Int) : (Bool × Int) → Option ((Bool × Int) ⊕ (Bool)) := fun (v120, v121) =>
  bif (A.zlt v121 (A.len x3)) then
    (gt A (cG (lc (cI .i64) (lc (cI .i64) (lc (cI .i64) (lc (cI .i64) (lc (cI .i64) (l1 (cI .i64)))))))) x3 v121).bind fun (a123, a124, a125, a126, a127, a128) =>
    (
      bif v120 then
        (H124a A x8 v121).bind fun r134 =>
        bif r134 then
          some true
        else
          (H66 A a123 a124 a125 a126 a127 a128 a91 a92 a93 a94 a95 a96).bind fun r137 =>
          some (!r137)
      else
        some false).bind fun v138 =>
    some (.inl (v138, (A.wrp .i64 (A.zadd v121 1))))
  else
    some (.inr v120)

noncomputable def H125bL1 (A : Ar) (x2 : List D) (x3 : List D) (x7 : List D) (x8 : Int) (x9 : Int) (x10 : Int) : (Int × List (D × D)) → Option ((Int × List (D × D)) ⊕ ((List (D × D)) ⊕ (List (D × D) × Int × Int × Int × List D))) := fun (v88, v89) =>
  bif (A.zlt v88 (A.len x3)) then
    jn (fun (v174 : List (D × D)) =>
      some (.inl ((A.wrp .i64 (A.zadd v88 1)), v174))) fun K175 =>
      (gt A (cG (lc (cI .i64) (lc (cI .i64) (lc (cI .i64) (lc (cI .i64) (lc (cI .i64) (l1 (cI .i64)))))))) x3 v88).bind fun (a91, a92, a93, a94, a95, a96) =>
      (H124a A x8 v88).bind fun r101 =>
      (iter (H125bL0 A x3 x8 a91 a92 a93 a94 a95 a96) ((!r101), 0)).bind (fun v140 =>
      bif v140 then
        (H78a A x9 x10 x2 a91 a92 a93 a94 a95 a96).bind fun (r144, r145, r146) =>
        bif r146 then
          (nk (A.zlt v88 0)).bind fun _ =>
          (
            (H74 A (A.bits .or .u8 x8 (A.shl .u8 1 v88)) r144 r145 v89 x2 x3).bind fun (r152, r153) =>
            bif (A.zlt 0 r152) then
              (ap A x7 [(.int .i64 v88)]).bind fun l155 =>
              some (.inr (r153, (A.bits .or .u8 x8 (A.shl .u8 1 v88)), r144, r145, l155))
            else
              some (.inl r153)).bind (Sum.elim (fun v160 =>
            K175 v160) (fun (v161, v162, v163, v164, v165) =>
            some (.inr (.inr (v161, v162, v163, v164, v165)))))
        else
          K175 v89
      else
        K175 v89)
  else
    some (.inr (.inl v89))

/--  *lineal history.search .next$1 -/
noncomputable def H125b (A : Ar) (x1 : List (D × D)) (x2 : List D) (x3 : List D) (x4 : Int) (x5 : Int) (x6 : Int) (x7 : List D) (x8 : Int) (x9 : Int) (x10 : Int) : Option ((List (D × D)) ⊕ (List (D × D) × Int × Int × Int × List D)) :=
  (iter (H125bL1 A x2 x3 x7 x8 x9 x10) (0, x1)).bind (Sum.elim (fun v176 =>
    some (.inl v176)) (fun (v177, v178, v179, v180, v181) =>
    some (.inr (v177, v178, v179, v180, v181))))

noncomputable def H92L0 (A : Ar) (x5 : List D) (x6 : List D) : (List (D × D) × Int × Int × Int × List D) → Option ((List (D × D) × Int × Int × Int × List D) ⊕ (List (D × D) × Int × Int × Int × List D)) := fun (v32, v33, v34, v35, v36) =>
  (H115a A v33 v34 v35 v32 x5 x6).bind fun r38 =>
  bif r38 then
    some (.inr (v32, v33, v34, v35, v36))
  else
    (H116d A v33 v34 v35 v32 x5 x6 v33 v34 v35 v36).bind fun (r41, r42, r43) =>
    (
      (H125b A v32 x5 x6 v33 v34 v35 v36 r41 r42 r43).bind (Sum.elim (fun r45 =>
        some (r45, v33, v34, v35, v36)) (fun (r46, r47, r48, r49, r50) =>
        some (r46, r47, r48, r49, r50)))).bind fun (v52, v53, v54, v55, v56) =>
    some (.inl (v52, v53, v54, v55, v56))

/--  *lineal history.search .first -/
noncomputable def H92 (A : Ar) (x1 : Int) (x2 : Int) (x3 : Int) (x4 : List (D × D)) (x5 : List D) (x6 : List D) : Option (List D × Bool × List (D × D)) :=
  (H74 A x1 x2 x3 x4 x5 x6).bind fun (r8, r9) =>
  bif (A.zeq r8 0) then
    some ([], false, r9)
  else
    (iter (H92L0 A x5 x6) (r9, x1, x2, x3, [])).bind (fun (v58, v59, v60, v61, v62) =>
    some (v62, true, v58))

/-- lineal history.Order -/
noncomputable def H43 (A : Ar) (x1 : List D) (x2 : List D) : Option (List D × Int) :=
  (H71 A x1 x2).bind fun r4 =>
  bif (A.zeq r4 0) then
    (H72 A x1 x2).bind fun (r7, r8) =>
    (H92 A 0 0 0 [] r7 r8).bind fun (r10, r11, r12) =>
    bif r11 then
      some (r10, 0)
    else
      some ([], 5)
  else
    some ([], r4)

noncomputable def H56L0 (A : Ar) (x1 : List D) (x2 : List D) : Int → Option ((Int) ⊕ ((Unit) ⊕ (Unit))) := fun v14 =>
  bif (A.zlt v14 (A.len x1)) then
    (gt A (cI .i64) x1 v14).bind fun a16 =>
    (gt A (cI .i64) x2 v14).bind fun a20 =>
    bif (A.zeq a16 a20) then
      some (.inl (A.wrp .i64 (A.zadd v14 1)))
    else
      some (.inr (.inr ()))
  else
    some (.inr (.inl ()))

/-- lineal linealref02.SameInts -/
noncomputable def H56 (A : Ar) (x1 : List D) (x2 : List D) : Option (Bool) :=
  bif (A.zeq (A.len x1) (A.len x2)) then
    (iter (H56L0 A x1 x2) 0).bind (Sum.elim (fun _ =>
      some true) (fun _ =>
      some false))
  else
    some false

/-- lineal lineallaw02.Sane -/
noncomputable def H19 (A : Ar) : Option (Bool) :=
  (H43 A [(.agg [(.int .i64 2), (.int .i64 2), (.list 1 [(.list 1 [(.int .i64 1), (.int .i64 0)]), (.list 1 [(.int .i64 1), (.int .i64 0)])]), (.list 1 [(.list 1 [(.int .i64 1), (.int .i64 0)]), (.list 1 [(.int .i64 0), (.int .i64 1)])])])] [(.agg [(.int .i64 0), (.int .i64 0), (.int .i64 0), (.int .i64 1), (.int .i64 1), (.int .i64 6)]), (.agg [(.int .i64 1), (.int .i64 0), (.int .i64 1), (.int .i64 0), (.int .i64 2), (.int .i64 5)])]).bind fun (r2, r3) =>
  (
    bif (A.zeq r3 0) then
      (H56 A r2 [(.int .i64 1), (.int .i64 0)]).bind fun r6 =>
      some r6
    else
      some false).bind fun v7 =>
  some v7

noncomputable def H123L0 (A : Ar) (x6 : Int) (a36 : List D) : Int → Option ((Int) ⊕ ((Unit) ⊕ (Unit))) := fun v50 =>
  bif (A.zlt v50 (A.len a36)) then
    (gt A (cI .i64) a36 v50).bind fun a52 =>
    (
      bif (A.zlt a52 0) then
        some true
      else
        some (A.zle x6 a52)).bind fun v57 =>
    bif v57 then
      some (.inr (.inr ()))
    else
      some (.inl (A.wrp .i64 (A.zadd v50 1)))
  else
    some (.inr (.inl ()))

noncomputable def H123L1 (A : Ar) (x2 : Int) (x5 : List D) (x6 : Int) : Int → Option ((Int) ⊕ ((Unit) ⊕ (Unit))) := fun v34 =>
  bif (A.zlt v34 (A.len x5)) then
    (gt A (cL 1) x5 v34).bind fun a36 =>
    bif (A.zeq (A.len a36) x2) then
      (iter (H123L0 A x6 a36) 0).bind (Sum.elim (fun _ =>
        some (.inl (A.wrp .i64 (A.zadd v34 1)))) (fun _ =>
        some (.inr (.inr ()))))
    else
      some (.inr (.inr ()))
  else
    some (.inr (.inl ()))

/-- lineal linealref01.isTable -/
noncomputable def H123 (A : Ar) (x1 : Int) (x2 : Int) (x3 : List D) (x4 : List D) (x5 : List D) (x6 : Int) : Option (Bool) :=
  bif (A.zeq (A.len x5) x1) then
    (iter (H123L1 A x2 x5 x6) 0).bind (Sum.elim (fun _ =>
      some true) (fun _ =>
      some false))
  else
    some false

/-- lineal linealref01.Valid -/
noncomputable def H114 (A : Ar) (x1 : Int) (x2 : Int) (x3 : List D) (x4 : List D) : Option (Bool) :=
  (
    bif (A.zle 1 x1) then
      bif (A.zle x1 8) then
        bif (A.zle 1 x2) then
          bif (A.zle x2 4) then
            (H123 A x1 x2 x3 x4 x3 x1).bind fun r10 =>
            bif r10 then
              (H123 A x1 x2 x3 x4 x4 6).bind fun r13 =>
              some r13
            else
              some false
          else
            some false
        else
          some false
      else
        some false
    else
      some false).bind fun v14 =>
  some v14

/-- lineal linealref02.within -/
noncomputable def H67 (A : Ar) (x1 : Int) (x2 : Int) (x3 : Int) : Option (Bool) :=
  (
    bif (A.zle x1 x2) then
      some (A.zle x2 x3)
    else
      some false).bind fun v5 =>
  some v5

noncomputable def H60L0 (A : Ar) (x1 : List D) : Int → Option ((Int) ⊕ ((Unit) ⊕ (Unit))) := fun v13 =>
  bif (A.zlt v13 (A.len x1)) then
    (gt A (cG (lc (cI .i64) (lc (cI .i64) (lc (cL 1) (l1 (cL 1)))))) x1 v13).bind fun (a15, a16, a17, a18) =>
    (H114 A a15 a16 a17 a18).bind fun r23 =>
    bif r23 then
      some (.inl (A.wrp .i64 (A.zadd v13 1)))
    else
      some (.inr (.inr ()))
  else
    some (.inr (.inl ()))

/-- lineal linealref02.areSpecs -/
noncomputable def H60 (A : Ar) (x1 : List D) : Option (Bool) :=
  (iter (H60L0 A x1) 0).bind (Sum.elim (fun _ =>
    (H67 A 1 (A.len x1) 2).bind fun r27 =>
    some r27) (fun _ =>
    some false))

/-- lineal linealref02.before -/
noncomputable def H68 (A : Ar) (x1 : Int) (x2 : Int) (x3 : Int) (x4 : Int) (x5 : Int) (x6 : Int) (x7 : Int) (x8 : Int) (x9 : Int) (x10 : Int) (x11 : Int) (x12 : Int) : Option (Bool) :=
  (
    bif (A.zeq x6 0) then
      some false
    else
      some (A.zlt x6 x11)).bind fun v14 =>
  some v14

/-- lineal linealref02.meets -/
noncomputable def H70 (A : Ar) (x1 : Int) (x2 : Int) (x3 : Int) (x4 : Int) (x5 : Int) (x6 : Int) (x7 : Int) (x8 : Int) (x9 : Int) (x10 : Int) (x11 : Int) (x12 : Int) : Option (Bool) :=
  (
    bif (A.zeq x5 x11) then
      some true
    else
      bif (A.zeq x5 x12) then
        some true
      else
        bif (A.zeq x6 x11) then
          some true
        else
          bif (A.zeq x6 0) then
            some false
          else
            some (A.zeq x6 x12)).bind fun v17 =>
  bif v17 then
    some true
  else
    (
      bif (A.zeq x1 x7) then
        (H68 A x1 x2 x3 x4 x5 x6 x7 x8 x9 x10 x11 x12).bind fun r22 =>
        bif r22 then
          some false
        else
          (H68 A x7 x8 x9 x10 x11 x12 x1 x2 x3 x4 x5 x6).bind fun r25 =>
          some (!r25)
      else
        some false).bind fun v26 =>
    some v26

noncomputable def H25L0 (A : Ar) (x1 : List D) (v39 : Int) (a41 : Int) (a42 : Int) (a43 : Int) (a44 : Int) (a45 : Int) (a46 : Int) : Int → Option ((Int) ⊕ ((Unit) ⊕ (Unit))) := fun v87 =>
  bif (A.zlt v87 v39) then
    (gt A (cG (lc (cI .i64) (lc (cI .i64) (lc (cI .i64) (lc (cI .i64) (lc (cI .i64) (l1 (cI .i64)))))))) x1 v87).bind fun (a89, a90, a91, a92, a93, a94) =>
    (H70 A a41 a42 a43 a44 a45 a46 a89 a90 a91 a92 a93 a94).bind fun r99 =>
    bif r99 then
      some (.inr (.inr ()))
    else
      some (.inl (A.wrp .i64 (A.zadd v87 1)))
  else
    some (.inr (.inl ()))

noncomputable def H25L1 (A : Ar) (x1 : List D) : Int → Option ((Int) ⊕ ((Unit) ⊕ (Unit))) := fun v39 =>
  bif (A.zlt v39 (A.len x1)) then
    (gt A (cG (lc (cI .i64) (lc (cI .i64) (lc (cI .i64) (lc (cI .i64) (lc (cI .i64) (l1 (cI .i64)))))))) x1 v39).bind fun (a41, a42, a43, a44, a45, a46) =>
    (
      (H67 A 0 a41 3).bind fun r51 =>
      bif r51 then
        (H67 A 0 a42 1).bind fun r54 =>
        bif r54 then
          (H67 A 0 a43 3).bind fun r57 =>
          bif r57 then
            (H67 A 0 a44 9).bind fun r60 =>
            bif r60 then
              (H67 A 1 a45 100).bind fun r63 =>
              some (!r63)
            else
              some true
          else
            some true
        else
          some true
      else
        some true).bind fun v64 =>
    bif v64 then
      some (.inr (.inr ()))
    else
      (
        bif (A.zeq a46 0) then
          bif (A.zeq a44 0) then
            some false
          else
            some true
        else
          (H67 A (A.wrp .i64 (A.zadd a45 1)) a46 100).bind fun r70 =>
          some (!r70)).bind fun v71 =>
      bif v71 then
        some (.inr (.inr ()))
      else
        (iter (H25L0 A x1 v39 a41 a42 a43 a44 a45 a46) 0).bind (Sum.elim (fun _ =>
          some (.inl (A.wrp .i64 (A.zadd v39 1)))) (fun _ =>
          some (.inr (.inr ()))))
  else
    some (.inr (.inl ()))

/-- lineal linealref02.Valid -/
noncomputable def H25 (A : Ar) (x1 : List D) : Option (Bool) :=
  bif (A.zlt 8 (A.len x1)) then
    some false
  else
    (iter (H25L1 A x1) 0).bind (Sum.elim (fun _ =>
      some true) (fun _ =>
      some false))

noncomputable def H61L0 (A : Ar) (x1 : List D) (x2 : List D) : Int → Option ((Int) ⊕ ((Unit) ⊕ (Unit))) := fun v32 =>
  bif (A.zlt v32 (A.len x2)) then
    (
      (gt A (cG (lc (cI .i64) (lc (cI .i64) (lc (cI .i64) (lc (cI .i64) (lc (cI .i64) (l1 (cI .i64)))))))) x2 v32).bind fun (a34, a35, a36, a37, a38, a39) =>
      bif (A.zle (A.len x1) a35) then
        some true
      else
        (gt A (cG (lc (cI .i64) (lc (cI .i64) (lc (cL 1) (l1 (cL 1)))))) x1 a35).bind fun (a44, a45, a46, a47) =>
        some (A.zle a45 a36)).bind fun v51 =>
    bif v51 then
      some (.inr (.inr ()))
    else
      some (.inl (A.wrp .i64 (A.zadd v32 1)))
  else
    some (.inr (.inl ()))

/-- lineal linealref02.isFor -/
noncomputable def H61 (A : Ar) (x1 : List D) (x2 : List D) : Option (Bool) :=
  (
    (H60 A x1).bind fun r4 =>
    bif r4 then
      (H25 A x2).bind fun r7 =>
      some (!r7)
    else
      some true).bind fun v8 =>
  bif v8 then
    some false
  else
    (iter (H61L0 A x1 x2) 0).bind (Sum.elim (fun _ =>
      some true) (fun _ =>
      some false))

/-- lineal linealref02.For -/
noncomputable def H21 (A : Ar) (x1 : List D) (x2 : List D) : Option (Bool × Int) :=
  (H60 A x1).bind fun r4 =>
  bif r4 then
    (H61 A x1 x2).bind fun r7 =>
    some (r7, 0)
  else
    some (false, 10)

/-- lineal history.index -/
noncomputable def H64 (A : Ar) (x1 : List D) (x2 : Int) : Option (Bool) :=
  (H77 A 0 x2 (A.wrp .i64 (A.zsub (A.len x1) 1))).bind fun r4 =>
  some r4

/-- lineal history.Orders -/
noncomputable def H30 (A : Ar) (x1 : List D) (x2 : List D) : Option (Int × Int) :=
  (H71 A x1 x2).bind fun r4 =>
  bif (A.zeq r4 0) then
    (H72 A x1 x2).bind fun (r7, r8) =>
    (H74 A 0 0 0 [] r7 r8).bind fun (r10, r11) =>
    some (r10, 0)
  else
    some (0, r4)

/-- lineal history.Linear -/
noncomputable def H26 (A : Ar) (x1 : List D) (x2 : List D) : Option (Bool × Int) :=
  (H30 A x1 x2).bind fun (r4, r5) =>
  some ((A.zlt 0 r4), r5)

/-- lineal linealref02.asked -/
noncomputable def H75 (A : Ar) (x1 : List D) (x2 : List D) : Option (Int) :=
  (H60 A x1).bind fun r4 =>
  bif r4 then
    (H61 A x1 x2).bind fun r7 =>
    bif r7 then
      some 0
    else
      some 20
  else
    some 10

noncomputable def H93aL0 (A : Ar) (x1 : List D) (x2 : List D) : (Int × List D) → Option ((Int × List D) ⊕ ((List D) ⊕ (List D))) := fun (v38, v39) =>
  bif (A.zlt v38 (A.len x2)) then
    (
      (gt A (cI .i64) x2 v38).bind fun a41 =>
      (H67 A 0 a41 (A.wrp .i64 (A.zsub (A.len x1) 1))).bind fun r46 =>
      bif r46 then
        (ck (A.zle 0 a41)).bind fun _ =>
        (ck (A.zlt a41 (A.len x1))).bind fun _ =>
        (gc A cB v39 (A.nat (A.zadd 0 a41))).bind fun a52 =>
        some a52
      else
        some true).bind fun v55 =>
    bif v55 then
      some (.inr (.inr v39))
    else
      (gt A (cI .i64) x2 v38).bind fun a58 =>
      (ck (A.zle 0 a58)).bind fun _ =>
      (ck (A.zlt a58 (A.len x1))).bind fun _ =>
      (A.lget v39 (A.nat (A.zadd 0 a58))).bind fun d66 =>
      some (.inl ((A.wrp .i64 (A.zadd v38 1)), (A.lset v39 (A.nat (A.zadd 0 a58)) (.bool true))))
  else
    some (.inr (.inl v39))

noncomputable def H93aL1 (A : Ar) (x1 : List D) (v68 : List D) : Int → Option ((Int) ⊕ ((Unit) ⊕ (Unit))) := fun v92 =>
  bif (A.zlt v92 (A.len x1)) then
    (
      (gt A (cG (lc (cI .i64) (lc (cI .i64) (lc (cI .i64) (lc (cI .i64) (lc (cI .i64) (l1 (cI .i64)))))))) x1 v92).bind fun (a94, a95, a96, a97, a98, a99) =>
      bif (A.zeq a99 0) then
        some false
      else
        (ck (A.zle 0 v92)).bind fun _ =>
        (ck (A.zlt v92 (A.len x1))).bind fun _ =>
        (gc A cB v68 (A.nat (A.zadd 0 v92))).bind fun a108 =>
        some (!a108)).bind fun v111 =>
    bif v111 then
      some (.inr (.inr ()))
    else
      some (.inl (A.wrp .i64 (A.zadd v92 1)))
  else
    some (.inr (.inl ()))

/-- lineal linealref02.isList -/
noncomputable def H93a (A : Ar) (x1 : List D) (x2 : List D) : Option (Bool) :=
  bif (A.zlt (A.len x1) (A.len x2)) then
    some false
  else
    (ck (A.zeq (A.len x1) (A.len x1))).bind fun _ =>
    (ck (A.zle 0 (A.len x1))).bind fun _ =>
    (ck (A.fits (A.len x1))).bind fun _ =>
    (iter (H93aL0 A x1 x2) (0, (A.rep (A.len x1) (.bool false)))).bind (Sum.elim (fun v68 =>
      (iter (H93aL1 A x1 v68) 0).bind (Sum.elim (fun _ =>
        some true) (fun _ =>
        some false))) (fun v69 =>
      some false))

noncomputable def H95aL0 (A : Ar) (x1 : List D) (x2 : List D) (x3 : List D) : (Int × List D) → Option ((Int × List D) ⊕ ((List D) ⊕ (List D))) := fun (v71, v72) =>
  bif (A.zlt v71 (A.len x3)) then
    (gt A (cI .i64) x3 v71).bind fun a74 =>
    (gt A (cG (lc (cI .i64) (lc (cI .i64) (lc (cI .i64) (lc (cI .i64) (lc (cI .i64) (l1 (cI .i64)))))))) x2 a74).bind fun (a78, a79, a80, a81, a82, a83) =>
    (gt A (cG (lc (cI .i64) (lc (cI .i64) (lc (cL 1) (l1 (cL 1)))))) x1 a79).bind fun (a87, a88, a89, a90) =>
    (
      bif (A.zeq a83 0) then
        some false
      else
        (ck (A.zle 0 a79)).bind fun _ =>
        (ck (A.zlt a79 (A.len x1))).bind fun _ =>
        (gc A (cI .i64) v72 (A.nat (A.zadd 0 a79))).bind fun a99 =>
        (gt A (cL 1) a90 a99).bind fun a102 =>
        (gt A (cI .i64) a102 a80).bind fun a106 =>
        some (!(A.zeq a106 a81))).bind fun v110 =>
    bif v110 then
      some (.inr (.inr v72))
    else
      (ck (A.zle 0 a79)).bind fun _ =>
      (ck (A.zlt a79 (A.len x1))).bind fun _ =>
      (gc A (cI .i64) v72 (A.nat (A.zadd 0 a79))).bind fun a117 =>
      (gt A (cL 1) a89 a117).bind fun a120 =>
      (gt A (cI .i64) a120 a80).bind fun a124 =>
      (ck (A.zle 0 a79)).bind fun _ =>
      (ck (A.zlt a79 (A.len x1))).bind fun _ =>
      (A.lget v72 (A.nat (A.zadd 0 a79))).bind fun d132 =>
      some (.inl ((A.wrp .i64 (A.zadd v71 1)), (A.lset v72 (A.nat (A.zadd 0 a79)) (.int .i64 a124))))
  else
    some (.inr (.inl v72))

/-- lineal linealref02.allows -/
noncomputable def H95a (A : Ar) (x1 : List D) (x2 : List D) (x3 : List D) : Option (Bool) :=
  (ck (A.zeq (A.len x1) (A.len x1))).bind fun _ =>
  (ck (A.zle 0 (A.len x1))).bind fun _ =>
  (ck (A.fits (A.len x1))).bind fun _ =>
  (iter (H95aL0 A x1 x2 x3) (0, (A.rep (A.len x1) (.int .i64 0)))).bind (Sum.elim (fun v134 =>
    some true) (fun v135 =>
    some false))

noncomputable def H94aL0 (A : Ar) (x1 : List D) (x2 : List D) (v6 : Int) : Int → Option ((Int) ⊕ ((Unit) ⊕ (Unit))) := fun v38 =>
  bif (A.zlt v38 v6) then
    (gt A (cI .i64) x2 v6).bind fun a40 =>
    (gt A (cG (lc (cI .i64) (lc (cI .i64) (lc (cI .i64) (lc (cI .i64) (lc (cI .i64) (l1 (cI .i64)))))))) x1 a40).bind fun (a44, a45, a46, a47, a48, a49) =>
    (gt A (cI .i64) x2 v38).bind fun a53 =>
    (gt A (cG (lc (cI .i64) (lc (cI .i64) (lc (cI .i64) (lc (cI .i64) (lc (cI .i64) (l1 (cI .i64)))))))) x1 a53).bind fun (a57, a58, a59, a60, a61, a62) =>
    (H68 A a44 a45 a46 a47 a48 a49 a57 a58 a59 a60 a61 a62).bind fun r67 =>
    bif r67 then
      some (.inr (.inr ()))
    else
      some (.inl (A.wrp .i64 (A.zadd v38 1)))
  else
    some (.inr (.inl ()))

noncomputable def H94aL1 (A : Ar) (x1 : List D) (x2 : List D) : Int → Option ((Int) ⊕ ((Unit) ⊕ (Unit))) := fun v6 =>
  bif (A.zlt v6 (A.len x2)) then
    (iter (H94aL0 A x1 x2 v6) 0).bind (Sum.elim (fun _ =>
      some (.inl (A.wrp .i64 (A.zadd v6 1)))) (fun _ =>
      some (.inr (.inr ()))))
  else
    some (.inr (.inl ()))

/-- lineal linealref02.keepsTime -/
noncomputable def H94a (A : Ar) (x1 : List D) (x2 : List D) : Option (Bool) :=
  (iter (H94aL1 A x1 x2) 0).bind (Sum.elim (fun _ =>
    some true) (fun _ =>
    some false))

/-- lineal history.always -/
noncomputable def H80 (A : Ar) : Option (Unit) :=
  some ()

/-- lineal history.Of$1 -/
noncomputable def H86 (A : Ar) (x1 : List D) (x2 : Int) : Option (Bool) :=
  (H77 A 0 x2 1).bind fun r4 =>
  some r4

/-- lineal history.Of$2$1 -/
noncomputable def H89 (A : Ar) (x1 : Int) (x2 : Int) (x3 : Int) (x4 : Int) (x5 : Int) (x6 : Int) (x7 : List D) (x8 : Int) : Option (Bool) :=
  some (A.zeq x2 x8)

noncomputable def H88aL0 (A : Ar) (x1 : List D) (x2 : List D) (x3 : Int) : (List D × Int) → Option ((List D × Int) ⊕ (List D)) := fun (v23, v24) =>
  bif (A.zlt v24 (A.len x1)) then
    (gt A (cG (lc (cI .i64) (lc (cI .i64) (lc (cI .i64) (lc (cI .i64) (lc (cI .i64) (l1 (cI .i64)))))))) x1 v24).bind fun (a26, a27, a28, a29, a30, a31) =>
    (H89 A a26 a27 a28 a29 a30 a31 x2 x3).bind fun r36 =>
    (
      bif r36 then
        (ap A v23 [(.agg [(.int .i64 a26), (.int .i64 a27), (.int .i64 a28), (.int .i64 a29), (.int .i64 a30), (.int .i64 a31)])]).bind fun l38 =>
        some l38
      else
        some v23).bind fun v42 =>
    some (.inl (v42, (A.wrp .i64 (A.zadd v24 1))))
  else
    some (.inr v23)

/-- lineal history.picked -/
noncomputable def H88a (A : Ar) (x1 : List D) (x2 : List D) (x3 : Int) : Option (List D) :=
  (iter (H88aL0 A x1 x2 x3) ([], 0)).bind (fun v44 =>
  some v44)

/-- lineal history.Of$2 -/
noncomputable def H87 (A : Ar) (x1 : List D) (x2 : Int) : Option (List D) :=
  (H88a A x1 x1 x2).bind fun r4 =>
  some r4

/-- lineal history.told   lineal api.Call  -/
noncomputable def H85 (A : Ar) (x1 : List D) (x2 : List D) (x3 : Int) : Option (List D × Int) :=
  (H24 A x1).bind fun r5 =>
  bif r5 then
    (H86 A x2 x3).bind fun r8 =>
    bif r8 then
      (H87 A x2 x3).bind fun r11 =>
      some (r11, 0)
    else
      some ([], 2)
  else
    some ([], 20)

/-- lineal history.Of -/
noncomputable def H40 (A : Ar) (x1 : List D) (x2 : Int) : Option (List D × Int) :=
  (H85 A x1 x1 x2).bind fun (r4, r5) =>
  some (r4, r5)

/-- slices.Clone   lineal api.Call lineal api.Call  -/
noncomputable def H90 (A : Ar) (x1 : List D) : Option (List D) :=
  bif (A.zlt 0 (A.len x1)) then
    (ap A [] x1).bind fun l4 =>
    some l4
  else
    both (
      some []) (
      (ap A [] x1).bind fun l8 =>
      some l8)

noncomputable def H24aL0 (A : Ar) (x1 : Int) (x3 : List D) (v106 : Int) (a113 : Int) (a114 : Int) (a115 : Int) (a116 : Int) (a117 : Int) (a118 : Int) : Int → Option ((Int) ⊕ ((Unit) ⊕ (Unit))) := fun v185 =>
  bif (A.zlt v185 (A.zsub v106 0)) then
    (ck (A.zle 0 v185)).bind fun _ =>
    (ck (A.zlt v185 (A.zsub v106 0))).bind fun _ =>
    (gc A (cG (lc (cI .i64) (lc (cI .i64) (lc (cI .i64) (lc (cI .i64) (lc (cI .i64) (l1 (cI .i64)))))))) x3 (A.nat (A.zadd (A.zadd x1 0) v185))).bind fun (a191, a192, a193, a194, a195, a196) =>
    (
      bif (A.zeq a113 a191) then
        (H66 A a113 a114 a115 a116 a117 a118 a191 a192 a193 a194 a195 a196).bind fun r201 =>
        bif r201 then
          some false
        else
          (H66 A a191 a192 a193 a194 a195 a196 a113 a114 a115 a116 a117 a118).bind fun r204 =>
          some (!r204)
      else
        some false).bind fun v205 =>
    bif v205 then
      some (.inr (.inr ()))
    else
      some (.inl (A.wrp .i64 (A.zadd v185 1)))
  else
    some (.inr (.inl ()))

noncomputable def H24aL1 (A : Ar) (x1 : Int) (x2 : Int) (x3 : List D) : (Int × List D) → Option ((Int × List D) ⊕ ((List D) ⊕ (List D))) := fun (v106, v107) =>
  bif (A.zlt v106 x2) then
    (ck (A.zle 0 v106)).bind fun _ =>
    (ck (A.zlt v106 x2)).bind fun _ =>
    (gc A (cG (lc (cI .i64) (lc (cI .i64) (lc (cI .i64) (lc (cI .i64) (lc (cI .i64) (l1 (cI .i64)))))))) x3 (A.nat (A.zadd x1 v106))).bind fun (a113, a114, a115, a116, a117, a118) =>
    (
      (H69 A a113 a114 a115 a116 a117 a118).bind fun r122 =>
      bif r122 then
        (ck (A.zle 0 a117)).bind fun _ =>
        (ck (A.zlt a117 (Int.ofNat 101))).bind fun _ =>
        (gc A cB v107 (A.nat (A.zadd 0 (A.zmul a117 (Int.ofNat 1))))).bind fun a128 =>
        some a128
      else
        some true).bind fun v131 =>
    bif v131 then
      some (.inr (.inr v107))
    else
      (ck (A.zle 0 a117)).bind fun _ =>
      (ck (A.zlt a117 (Int.ofNat 101))).bind fun _ =>
      (A.lget v107 (A.nat (A.zadd 0 (A.zmul a117 (Int.ofNat 1))))).bind fun d138 =>
      jn (fun (v155 : List D) =>
        (ck (A.zle 0 0)).bind fun _ =>
        (ck (A.zle 0 v106)).bind fun _ =>
        (ck (A.zle v106 x2)).bind fun _ =>
        (iter (H24aL0 A x1 x3 v106 a113 a114 a115 a116 a117 a118) 0).bind (Sum.elim (fun _ =>
          some (.inl ((A.wrp .i64 (A.zadd v106 1)), v155))) (fun _ =>
          some (.inr (.inr v155))))) fun K156 =>
        bif (A.zlt 0 a118) then
          (ck (A.zle 0 a118)).bind fun _ =>
          (ck (A.zlt a118 (Int.ofNat 101))).bind fun _ =>
          (gc A cB (A.lset v107 (A.nat (A.zadd 0 (A.zmul a117 (Int.ofNat 1)))) (.bool true)) (A.nat (A.zadd 0 (A.zmul a118 (Int.ofNat 1))))).bind fun a145 =>
          bif a145 then
            some (.inr (.inr (A.lset v107 (A.nat (A.zadd 0 (A.zmul a117 (Int.ofNat 1)))) (.bool true))))
          else
            (ck (A.zle 0 a118)).bind fun _ =>
            (ck (A.zlt a118 (Int.ofNat 101))).bind fun _ =>
            (A.lget (A.lset v107 (A.nat (A.zadd 0 (A.zmul a117 (Int.ofNat 1)))) (.bool true)) (A.nat (A.zadd 0 (A.zmul a118 (Int.ofNat 1))))).bind fun d153 =>
            K156 (A.lset (A.lset v107 (A.nat (A.zadd 0 (A.zmul a117 (Int.ofNat 1)))) (.bool true)) (A.nat (A.zadd 0 (A.zmul a118 (Int.ofNat 1)))) (.bool true))
        else
          K156 (A.lset v107 (A.nat (A.zadd 0 (A.zmul a117 (Int.ofNat 1)))) (.bool true))
  else
    some (.inr (.inl v107))

/-- lineal history.Valid -/
noncomputable def H24a (A : Ar) (x1 : Int) (x2 : Int) (x3 : List D) : Option (Bool) :=
  bif (A.zlt 8 x2) then
    some false
  else
    (iter (H24aL1 A x1 x2 x3) (0, (A.rep (Int.ofNat 101) (.bool false)))).bind (Sum.elim (fun v209 =>
      some true) (fun v210 =>
      some false))

/-- lineal history.Longer$1 -/
noncomputable def H91 (A : Ar) (x1 : List D) (x2 : Int) (x3 : Int) (x4 : Int) (x5 : List D) (x6 : Int) (x7 : Int) : Option (Bool × List D) :=
  (
    (H64 A x1 x2).bind fun r9 =>
    bif r9 then
      (gt A (cG (lc (cI .i64) (lc (cI .i64) (lc (cI .i64) (lc (cI .i64) (lc (cI .i64) (l1 (cI .i64)))))))) x1 x2).bind fun (a11, a12, a13, a14, a15, a16) =>
      bif (A.zeq a16 0) then
        some true
      else
        bif (A.zlt a15 x3) then
          some true
        else
          some (A.zlt x4 a16)
    else
      some true).bind fun v22 =>
  bif v22 then
    some (false, x5)
  else
    (ck (A.zle 0 x2)).bind fun _ =>
    (ck (A.zlt x2 x7)).bind fun _ =>
    (gc A (cG (lc (cI .i64) (lc (cI .i64) (lc (cI .i64) (lc (cI .i64) (lc (cI .i64) (l1 (cI .i64)))))))) x5 (A.nat (A.zadd x6 x2))).bind fun (a29, a30, a31, a32, a33, a34) =>
    (ck (A.zle 0 x2)).bind fun _ =>
    (ck (A.zlt x2 x7)).bind fun _ =>
    (gc A (cG (lc (cI .i64) (lc (cI .i64) (lc (cI .i64) (lc (cI .i64) (lc (cI .i64) (l1 (cI .i64)))))))) (A.lset x5 (A.nat (A.zadd x6 x2)) (.agg [(.int .i64 a29), (.int .i64 a30), (.int .i64 a31), (.int .i64 a32), (.int .i64 x3), (.int .i64 a34)])) (A.nat (A.zadd x6 x2))).bind fun (a41, a42, a43, a44, a45, a46) =>
    (H24a A x6 x7 (A.lset (A.lset x5 (A.nat (A.zadd x6 x2)) (.agg [(.int .i64 a29), (.int .i64 a30), (.int .i64 a31), (.int .i64 a32), (.int .i64 x3), (.int .i64 a34)])) (A.nat (A.zadd x6 x2)) (.agg [(.int .i64 a41), (.int .i64 a42), (.int .i64 a43), (.int .i64 a44), (.int .i64 a45), (.int .i64 x4)]))).bind fun r50 =>
    some (r50, (A.lset (A.lset x5 (A.nat (A.zadd x6 x2)) (.agg [(.int .i64 a29), (.int .i64 a30), (.int .i64 a31), (.int .i64 a32), (.int .i64 x3), (.int .i64 a34)])) (A.nat (A.zadd x6 x2)) (.agg [(.int .i64 a41), (.int .i64 a42), (.int .i64 a43), (.int .i64 a44), (.int .i64 a45), (.int .i64 x4)])))

/-- lineal history.told bool  -/
noncomputable def H62b (A : Ar) (x1 : List D) (x2 : List D) (x3 : Int) (x4 : Int) (x5 : Int) (x6 : List D) (x7 : Int) (x8 : Int) : Option (Bool × Int × List D) :=
  (H24 A x1).bind fun r10 =>
  bif r10 then
    (H91 A x2 x3 x4 x5 x6 x7 x8).bind fun (r13, r14) =>
    bif r13 then
      (H80 A).bind fun () =>
      some (true, 0, r14)
    else
      some (false, 2, r14)
  else
    some (false, 20, x6)

/-- lineal history.Longer$1 -/
noncomputable def H91a (A : Ar) (x1 : List D) (x2 : Int) (x3 : Int) (x4 : Int) (x5 : List D) : Option (Unit) :=
  (
    (H64 A x1 x2).bind fun r7 =>
    bif r7 then
      (gt A (cG (lc (cI .i64) (lc (cI .i64) (lc (cI .i64) (lc (cI .i64) (lc (cI .i64) (l1 (cI .i64)))))))) x1 x2).bind fun (a9, a10, a11, a12, a13, a14) =>
      bif (A.zeq a14 0) then
        some true
      else
        bif (A.zlt a13 x3) then
          some true
        else
          some (A.zlt x4 a14)
    else
      some true).bind fun v20 =>
  bif v20 then
    some ()
  else
    (gt A (cG (lc (cI .i64) (lc (cI .i64) (lc (cI .i64) (lc (cI .i64) (lc (cI .i64) (l1 (cI .i64)))))))) x5 x2).bind fun (a23, a24, a25, a26, a27, a28) =>
    none

/-- lineal history.told bool  -/
noncomputable def H62c (A : Ar) (x1 : List D) (x2 : List D) (x3 : Int) (x4 : Int) (x5 : Int) (x6 : List D) : Option (Int) :=
  (H24 A x1).bind fun r8 =>
  bif r8 then
    (H91a A x2 x3 x4 x5 x6).bind fun () =>
    some 2
  else
    some 20

/-- lineal history.Longer -/
noncomputable def H41 (A : Ar) (x1 : List D) (x2 : Int) (x3 : Int) (x4 : Int) : Option (List D × Int) :=
  (H90 A x1).bind fun r6 =>
  bif (A.zlt 0 (A.len r6)) then
    (ck (scalars r6)).bind fun _ =>
    (H62b A x1 x1 x2 x3 x4 r6 0 (A.len r6)).bind fun (r10, r11, r12) =>
    bif (A.zeq r11 0) then
      (fz A r12 0 (A.len r6)).bind fun l14 =>
      some (l14, 0)
    else
      some ([], r11)
  else
    (H62c A x1 x1 x2 x3 x4 r6).bind fun r19 =>
    bif (A.zeq r19 0) then
      some (r6, 0)
    else
      some ([], r19)

/-- lineal linealref02.IsOrder -/
noncomputable def H44 (A : Ar) (x1 : List D) (x2 : List D) (x3 : List D) : Option (Bool × Int) :=
  (H75 A x1 x2).bind fun r5 =>
  bif (A.zeq r5 0) then
    (
      (H93a A x2 x3).bind fun r8 =>
      bif r8 then
        (H94a A x2 x3).bind fun r11 =>
        bif r11 then
          (H95a A x1 x2 x3).bind fun r14 =>
          some r14
        else
          some false
      else
        some false).bind fun v15 =>
    some (v15, 0)
  else
    some (false, r5)

/-- lineal history.Until$1 -/
noncomputable def H96 (A : Ar) (x1 : Int) : Option (Bool) :=
  (H77 A 0 x1 100).bind fun r3 =>
  some r3

/-- lineal history.Until$2$1 -/
noncomputable def H98 (A : Ar) (x1 : Int) (x2 : Int) (x3 : Int) (x4 : Int) (x5 : Int) (x6 : Int) (x7 : Int) : Option (Bool) :=
  some (A.zle x5 x7)

noncomputable def H88bL0 (A : Ar) (x1 : List D) (x2 : Int) : (List D × Int) → Option ((List D × Int) ⊕ (List D)) := fun (v22, v23) =>
  bif (A.zlt v23 (A.len x1)) then
    (gt A (cG (lc (cI .i64) (lc (cI .i64) (lc (cI .i64) (lc (cI .i64) (lc (cI .i64) (l1 (cI .i64)))))))) x1 v23).bind fun (a25, a26, a27, a28, a29, a30) =>
    (H98 A a25 a26 a27 a28 a29 a30 x2).bind fun r35 =>
    (
      bif r35 then
        (ap A v22 [(.agg [(.int .i64 a25), (.int .i64 a26), (.int .i64 a27), (.int .i64 a28), (.int .i64 a29), (.int .i64 a30)])]).bind fun l37 =>
        some l37
      else
        some v22).bind fun v41 =>
    some (.inl (v41, (A.wrp .i64 (A.zadd v23 1))))
  else
    some (.inr v22)

/-- lineal history.picked -/
noncomputable def H88b (A : Ar) (x1 : List D) (x2 : Int) : Option (List D) :=
  (iter (H88bL0 A x1 x2) ([], 0)).bind (fun v43 =>
  some v43)

noncomputable def H97L0 (A : Ar) (x2 : Int) (r4 : List D) : (Int × List D) → Option ((Int × List D) ⊕ (List D)) := fun (v39, v40) =>
  bif (A.zlt v39 (A.len r4)) then
    (ck (A.zle 0 v39)).bind fun _ =>
    (ck (A.zlt v39 (A.len r4))).bind fun _ =>
    (gc A (cG (lc (cI .i64) (lc (cI .i64) (lc (cI .i64) (lc (cI .i64) (lc (cI .i64) (l1 (cI .i64)))))))) v40 (A.nat (A.zadd 0 v39))).bind fun (a46, a47, a48, a49, a50, a51) =>
    (
      bif (A.zlt x2 a51) then
        (gc A (cG (lc (cI .i64) (lc (cI .i64) (lc (cI .i64) (lc (cI .i64) (lc (cI .i64) (l1 (cI .i64)))))))) v40 (A.nat (A.zadd 0 v39))).bind fun (a55, a56, a57, a58, a59, a60) =>
        (gc A (cG (lc (cI .i64) (lc (cI .i64) (lc (cI .i64) (lc (cI .i64) (lc (cI .i64) (l1 (cI .i64)))))))) (A.lset v40 (A.nat (A.zadd 0 v39)) (.agg [(.int .i64 a55), (.int .i64 a56), (.int .i64 a57), (.int .i64 a58), (.int .i64 a59), (.int .i64 0)])) (A.nat (A.zadd 0 v39))).bind fun (a63, a64, a65, a66, a67, a68) =>
        some (A.lset (A.lset v40 (A.nat (A.zadd 0 v39)) (.agg [(.int .i64 a55), (.int .i64 a56), (.int .i64 a57), (.int .i64 a58), (.int .i64 a59), (.int .i64 0)])) (A.nat (A.zadd 0 v39)) (.agg [(.int .i64 a63), (.int .i64 a64), (.int .i64 a65), (.int .i64 0), (.int .i64 a67), (.int .i64 a68)]))
      else
        some v40).bind fun v71 =>
    some (.inl ((A.wrp .i64 (A.zadd v39 1)), v71))
  else
    some (.inr v40)

noncomputable def H97L1 (A : Ar) (x2 : Int) (r4 : List D) : Int → Option ((Int) ⊕ (Unit)) := fun v90 =>
  bif (A.zlt v90 (A.len r4)) then
    (gt A (cG (lc (cI .i64) (lc (cI .i64) (lc (cI .i64) (lc (cI .i64) (lc (cI .i64) (l1 (cI .i64)))))))) r4 v90).bind fun (a92, a93, a94, a95, a96, a97) =>
    bif (A.zlt x2 a97) then
      none
    else
      some (.inl (A.wrp .i64 (A.zadd v90 1)))
  else
    some (.inr ())

/-- lineal history.Until$2 -/
noncomputable def H97 (A : Ar) (x1 : List D) (x2 : Int) : Option (List D) :=
  (H88b A x1 x2).bind fun r4 =>
  bif (A.zlt 0 (A.len r4)) then
    (ck (scalars r4)).bind fun _ =>
    (iter (H97L0 A x2 r4) (0, r4)).bind (fun v73 =>
    (fz A v73 0 (A.len r4)).bind fun l75 =>
    some l75)
  else
    (iter (H97L1 A x2 r4) 0).bind (fun _ =>
    some r4)

/-- lineal history.told   lineal api.Call  -/
noncomputable def H85a (A : Ar) (x1 : List D) (x2 : Int) (x3 : List D) (x4 : Int) : Option (List D × Int) :=
  (H24 A x1).bind fun r6 =>
  bif r6 then
    (H96 A x2).bind fun r9 =>
    bif r9 then
      (H97 A x3 x4).bind fun r12 =>
      some (r12, 0)
    else
      some ([], 2)
  else
    some ([], 20)

/-- lineal history.Until -/
noncomputable def H45 (A : Ar) (x1 : List D) (x2 : Int) : Option (List D × Int) :=
  (H85a A x1 x2 x1 x2).bind fun (r4, r5) =>
  some (r4, r5)

noncomputable def H99L0 (A : Ar) (x1 : List D) (x2 : List D) : (Int × List (D × D)) → Option ((Int × List (D × D)) ⊕ ((List (D × D)) ⊕ (List (D × D)))) := fun (v18, v19) =>
  bif (A.zlt v18 (A.len x2)) then
    (gt A (cI .i64) x2 v18).bind fun a21 =>
    (
      (H64 A x1 a21).bind fun r26 =>
      bif r26 then
        (lk A cB v19 (.int .i64 a21)).bind fun o31 => o31.elim (
          some false) fun a28 =>
        some a28
      else
        some true).bind fun v32 =>
    bif v32 then
      some (.inr (.inr v19))
    else
      some (.inl ((A.wrp .i64 (A.zadd v18 1)), (A.mput v19 (.int .i64 a21) (.bool true))))
  else
    some (.inr (.inl v19))

noncomputable def H99L1 (A : Ar) (x1 : List D) (v35 : List (D × D)) : Int → Option ((Int) ⊕ ((Unit) ⊕ (Unit))) := fun v56 =>
  bif (A.zlt v56 (A.len x1)) then
    (gt A (cG (lc (cI .i64) (lc (cI .i64) (lc (cI .i64) (lc (cI .i64) (lc (cI .i64) (l1 (cI .i64)))))))) x1 v56).bind fun (a58, a59, a60, a61, a62, a63) =>
    (
      bif (A.zlt 0 a63) then
        (lk A cB v35 (.int .i64 v56)).bind fun o71 => o71.elim (
          some true) fun a68 =>
        some (!a68)
      else
        some false).bind fun v72 =>
    bif v72 then
      some (.inr (.inr ()))
    else
      some (.inl (A.wrp .i64 (A.zadd v56 1)))
  else
    some (.inr (.inl ()))

/-- lineal history.isOrder -/
noncomputable def H99 (A : Ar) (x1 : List D) (x2 : List D) : Option (Bool) :=
  (iter (H99L0 A x1 x2) (0, [])).bind (Sum.elim (fun v35 =>
    (iter (H99L1 A x1 v35) 0).bind (Sum.elim (fun _ =>
      some true) (fun _ =>
      some false))) (fun v36 =>
    some false))

noncomputable def H100L0 (A : Ar) (x1 : List D) (a70 : Int) (l74 : List D) : Int → Option ((Int) ⊕ ((Unit) ⊕ (Unit))) := fun v106 =>
  bif (A.zlt v106 (A.len l74)) then
    (gt A (cI .i64) l74 v106).bind fun a108 =>
    (gt A (cG (lc (cI .i64) (lc (cI .i64) (lc (cI .i64) (lc (cI .i64) (lc (cI .i64) (l1 (cI .i64)))))))) x1 a70).bind fun (a112, a113, a114, a115, a116, a117) =>
    (gt A (cG (lc (cI .i64) (lc (cI .i64) (lc (cI .i64) (lc (cI .i64) (lc (cI .i64) (l1 (cI .i64)))))))) x1 a108).bind fun (a121, a122, a123, a124, a125, a126) =>
    (H66 A a112 a113 a114 a115 a116 a117 a121 a122 a123 a124 a125 a126).bind fun r131 =>
    bif r131 then
      some (.inr (.inr ()))
    else
      some (.inl (A.wrp .i64 (A.zadd v106 1)))
  else
    some (.inr (.inl ()))

noncomputable def H100L1 (A : Ar) (x1 : List D) (x2 : List D) : Int → Option ((Int) ⊕ ((Unit) ⊕ (Unit))) := fun v68 =>
  bif (A.zlt v68 (A.len x2)) then
    (gt A (cI .i64) x2 v68).bind fun a70 =>
    (sl A x2 0 v68).bind fun l74 =>
    (iter (H100L0 A x1 a70 l74) 0).bind (Sum.elim (fun _ =>
      some (.inl (A.wrp .i64 (A.zadd v68 1)))) (fun _ =>
      some (.inr (.inr ()))))
  else
    some (.inr (.inl ()))

/-- lineal history.keeps -/
noncomputable def H100 (A : Ar) (x1 : List D) (x2 : List D) : Option (Bool) :=
  (iter (H100L1 A x1 x2) 0).bind (Sum.elim (fun _ =>
    some true) (fun _ =>
    some false))

noncomputable def H101L0 (A : Ar) (x1 : List D) (x2 : List D) (x3 : List D) : (Int × Int × Int) → Option ((Int × Int × Int) ⊕ ((Unit) ⊕ (Unit))) := fun (v23, v24, v25) =>
  bif (A.zlt v25 (A.len x3)) then
    (gt A (cI .i64) x3 v25).bind fun a27 =>
    (gt A (cG (lc (cI .i64) (lc (cI .i64) (lc (cI .i64) (lc (cI .i64) (lc (cI .i64) (l1 (cI .i64)))))))) x2 a27).bind fun (a31, a32, a33, a34, a35, a36) =>
    (H78a A v23 v24 x1 a31 a32 a33 a34 a35 a36).bind fun (r41, r42, r43) =>
    bif r43 then
      some (.inl (r41, r42, (A.wrp .i64 (A.zadd v25 1))))
    else
      some (.inr (.inr ()))
  else
    some (.inr (.inl ()))

/-- lineal history.allows -/
noncomputable def H101 (A : Ar) (x1 : List D) (x2 : List D) (x3 : List D) : Option (Bool) :=
  (iter (H101L0 A x1 x2 x3) (0, 0, 0)).bind (Sum.elim (fun _ =>
    some true) (fun _ =>
    some false))

/-- lineal history.IsOrder -/
noncomputable def H46 (A : Ar) (x1 : List D) (x2 : List D) (x3 : List D) : Option (Bool × Int) :=
  (H71 A x1 x2).bind fun r5 =>
  bif (A.zeq r5 0) then
    (
      (H99 A x2 x3).bind fun r8 =>
      bif r8 then
        (H100 A x2 x3).bind fun r11 =>
        bif r11 then
          (H101 A x1 x2 x3).bind fun r14 =>
          some r14
        else
          some false
      else
        some false).bind fun v15 =>
    some (v15, 0)
  else
    some (false, r5)

noncomputable def H9L0 (A : Ar) (x1 : List D) (x2 : List D) : (Bool × Int) → Option ((Bool × Int) ⊕ ((Bool) ⊕ (Unit))) := fun (v40, v41) =>
  bif (A.zlt v41 2) then
    (H40 A x2 v41).bind fun (r44, r45) =>
    (H26 A x1 r44).bind fun (r47, r48) =>
    (
      bif (A.zeq r45 0) then
        some (!(A.zeq r48 0))
      else
        some true).bind fun v50 =>
    bif v50 then
      some (.inr (.inr ()))
    else
      (
        bif v40 then
          some r47
        else
          some false).bind fun v54 =>
      some (.inl (v54, (A.wrp .i64 (A.zadd v41 1))))
  else
    some (.inr (.inl v40))

/-- lineal linealtop.TopHistory -/
noncomputable def H9 (A : Ar) (x1 : List D) (x2 : List D) (x3 : List D) : Option (Bool) :=
  (ck (A.zeq (A.len x3) (Int.ofNat 4))).bind fun _ =>
  (
    (H17 A x1).bind fun r7 =>
    bif r7 then
      some true
    else
      (H18 A x2).bind fun r10 =>
      some r10).bind fun v11 =>
  bif v11 then
    (H19 A).bind fun r15 =>
    some r15
  else
    (H21 A x1 x2).bind fun (r17, r18) =>
    (
      bif (A.zeq r18 0) then
        some (!r17)
      else
        some true).bind fun v20 =>
    bif v20 then
      (H19 A).bind fun r24 =>
      some r24
    else
      (H26 A x1 x2).bind fun (r26, r27) =>
      bif (A.zeq r27 0) then
        (iter (H9L0 A x1 x2) (true, 0)).bind (Sum.elim (fun v56 =>
          bif (A.beq v56 r26) then
            bif r26 then
              (H43 A x1 x2).bind fun (r70, r71) =>
              (H44 A x1 x2 r70).bind fun (r73, r74) =>
              (
                bif (A.zeq r71 0) then
                  bif (A.zeq r74 0) then
                    some (!r73)
                  else
                    some true
                else
                  some true).bind fun v77 =>
              bif v77 then
                some false
              else
                (gc A (cI .u8) x3 (A.nat 0)).bind fun a80 =>
                (nk (A.zeq 101 0)).bind fun _ =>
                (H45 A x2 (A.rem (A.wrp .i64 a80) 101)).bind fun (r86, r87) =>
                (H26 A x1 r86).bind fun (r89, r90) =>
                (
                  bif (A.zeq r87 0) then
                    bif (A.zeq r90 0) then
                      some (!r89)
                    else
                      some true
                  else
                    some true).bind fun v93 =>
                bif v93 then
                  some false
                else
                  bif (A.zeq (A.len x2) 0) then
                    (H19 A).bind fun r98 =>
                    some r98
                  else
                    (gc A (cI .u8) x3 (A.nat (A.zadd 0 (Int.ofNat 1)))).bind fun a99 =>
                    (nk (A.zeq (A.len x2) 0)).bind fun _ =>
                    (gt A (cG (lc (cI .i64) (lc (cI .i64) (lc (cI .i64) (lc (cI .i64) (lc (cI .i64) (l1 (cI .i64)))))))) x2 (A.rem (A.wrp .i64 a99) (A.len x2))).bind fun (a104, a105, a106, a107, a108, a109) =>
                    (gc A (cI .u8) x3 (A.nat (A.zadd 0 (Int.ofNat 2)))).bind fun a113 =>
                    (nk (A.zeq 10 0)).bind fun _ =>
                    (gc A (cI .u8) x3 (A.nat (A.zadd 0 (Int.ofNat 3)))).bind fun a118 =>
                    (nk (A.zeq 10 0)).bind fun _ =>
                    (H41 A x2 (A.rem (A.wrp .i64 a99) (A.len x2)) (A.zmax (A.wrp .i64 (A.zsub a108 (A.rem (A.wrp .i64 a113) 10))) 1) (A.wrp .i64 (A.zadd a109 (A.rem (A.wrp .i64 a118) 10)))).bind fun (r124, r125) =>
                    bif (A.zeq r125 0) then
                      (H26 A x1 r124).bind fun (r133, r134) =>
                      (H46 A x1 r124 r70).bind fun (r136, r137) =>
                      (
                        bif (A.zeq r134 0) then
                          bif (A.zeq r137 0) then
                            bif r133 then
                              bif r136 then
                                (H19 A).bind fun r143 =>
                                some r143
                              else
                                some false
                            else
                              some false
                          else
                            some false
                        else
                          some false).bind fun v144 =>
                      some v144
                    else
                      (
                        bif (A.zeq r125 2) then
                          (H19 A).bind fun r129 =>
                          some r129
                        else
                          some false).bind fun v130 =>
                      some v130
            else
              (H43 A x1 x2).bind fun (r62, r63) =>
              (
                bif (A.zeq r63 5) then
                  (H19 A).bind fun r66 =>
                  some r66
                else
                  some false).bind fun v67 =>
              some v67
          else
            some false) (fun _ =>
          some false))
      else
        some false
end Go.Am
