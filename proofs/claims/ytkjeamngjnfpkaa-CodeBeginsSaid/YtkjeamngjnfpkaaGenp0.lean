/- Own text: Genp0. -/
import Derived.Test.YtkjeamngjnfpkaaAmLaw
set_option maxRecDepth 100000
set_option maxHeartbeats 2000000
set_option linter.unusedVariables false
set_option linter.unusedSimpArgs false
namespace Go.Am
open Go
noncomputable def C41L0 (A : Ar) (a46 : List D) : Int → Option ((Int) ⊕ ((Unit) ⊕ (Unit))) := fun v61 =>
  bif (A.zlt v61 (A.len a46)) then
    (gt A (cL 1) a46 v61).bind fun a63 =>
    bif (A.zlt 20 (A.len a63)) then
      some (.inr (.inr ()))
    else
      some (.inl (A.wrp .i64 (A.zadd v61 1)))
  else
    some (.inr (.inl ()))

noncomputable def C41L1 (A : Ar) (a47 : List D) : Int → Option ((Int) ⊕ ((Unit) ⊕ (Unit))) := fun v75 =>
  bif (A.zlt v75 (A.len a47)) then
    (gt A (cL 1) a47 v75).bind fun a77 =>
    bif (A.zlt 20 (A.len a77)) then
      some (.inr (.inr ()))
    else
      some (.inl (A.wrp .i64 (A.zadd v75 1)))
  else
    some (.inr (.inl ()))

noncomputable def C41L2 (A : Ar) (x1 : List D) : Int → Option ((Int) ⊕ ((Unit) ⊕ (Unit))) := fun v42 =>
  bif (A.zlt v42 (A.len x1)) then
    (gt A (cG (lc (cI .i64) (lc (cI .i64) (lc (cL 1) (l1 (cL 1)))))) x1 v42).bind fun (a44, a45, a46, a47) =>
    ((
      bif (A.zlt 20 (A.len a46)) then
        some true
      else
        some (A.zlt 20 (A.len a47)) : Option (Bool))).bind fun v52 =>
    bif v52 then
      some (.inr (.inr ()))
    else
      (iter (C41L0 A a46) 0).bind (Sum.elim (fun _ =>
        (iter (C41L1 A a47) 0).bind (Sum.elim (fun _ =>
          some (.inl (A.wrp .i64 (A.zadd v42 1)))) (fun _ =>
          some (.inr (.inr ()))))) (fun _ =>
        some (.inr (.inr ()))))
  else
    some (.inr (.inl ()))

/-- lineal lineallaw02.Large -/
noncomputable def C41 (A : Ar) (x1 : List D) : Option (Bool) :=
  (iter (C41L2 A x1) 0).bind (Sum.elim (fun _ =>
    some (A.zlt 5 (A.len x1))) (fun _ =>
    some true))

noncomputable def C9L0 (A : Ar) (x5 : List D) : Int → Option ((Int) ⊕ ((Unit) ⊕ (Unit))) := fun v13 =>
  bif (A.zlt v13 (A.len x5)) then
    (gt A (cL 4) x5 v13).bind fun a15 =>
    bif (A.zlt 30 (A.len a15)) then
      some (.inr (.inr ()))
    else
      some (.inl (A.wrp .i64 (A.zadd v13 1)))
  else
    some (.inr (.inl ()))

noncomputable def C9L1 (A : Ar) (x6 : List D) : Int → Option ((Int) ⊕ ((Unit) ⊕ (Unit))) := fun v27 =>
  bif (A.zlt v27 (A.len x6)) then
    (gt A (cL 1) x6 v27).bind fun a29 =>
    bif (A.zlt 20 (A.len a29)) then
      some (.inr (.inr ()))
    else
      some (.inl (A.wrp .i64 (A.zadd v27 1)))
  else
    some (.inr (.inl ()))

/-- lineal lineallaw08.Large -/
noncomputable def C9 (A : Ar) (x1 : Int) (x2 : Int) (x3 : List D) (x4 : List D) (x5 : List D) (x6 : List D) : Option (Bool) :=
  (iter (C9L0 A x5) 0).bind (Sum.elim (fun _ =>
    (iter (C9L1 A x6) 0).bind (Sum.elim (fun _ =>
      ((
        (C41 A [(.agg [(.int .i64 x1), (.int .i64 x2), (.list 1 x3), (.list 1 x4)])]).bind fun r36 =>
        bif r36 then
          some true
        else
          bif (A.zlt 10 (A.len x5)) then
            some true
          else
            some (A.zlt 10 (A.len x6)) : Option (Bool))).bind fun v39 =>
      some v39) (fun _ =>
      some true))) (fun _ =>
    some true))

/-- lineal code.between -/
noncomputable def C47 (A : Ar) (x1 : Int) (x2 : Int) (x3 : Int) : Option (Bool) :=
  ((
    bif (A.zle x1 x2) then
      some (A.zle x2 x3)
    else
      some false : Option (Bool))).bind fun v5 =>
  some v5

/-- lineal code.isRegister$1 -/
noncomputable def C163 (A : Ar) (x1 : Int) : Option (Bool) :=
  (C47 A 0 x1 3).bind fun r3 =>
  some (!r3)

noncomputable def C162L0 (A : Ar) (x1 : List D) : Int → Option ((Int) ⊕ ((Unit) ⊕ (Int))) := fun v10 =>
  bif (A.zlt v10 (A.len x1)) then
    (gt A (cI .i64) x1 v10).bind fun a12 =>
    (C163 A a12).bind fun r17 =>
    bif r17 then
      some (.inr (.inr v10))
    else
      some (.inl (A.wrp .i64 (A.zadd v10 1)))
  else
    some (.inr (.inl ()))

/-- slices.IndexFunc   int int  -/
noncomputable def C162 (A : Ar) (x1 : List D) : Option (Int) :=
  (iter (C162L0 A x1) 0).bind (Sum.elim (fun _ =>
    some (-1)) (fun v19 =>
    some v19))

/-- slices.ContainsFunc   int int  -/
noncomputable def C135 (A : Ar) (x1 : List D) : Option (Bool) :=
  (C162 A x1).bind fun r3 =>
  some (A.zle 0 r3)

/-- lineal code.isRegister -/
noncomputable def C138 (A : Ar) (x1 : List D) : Option (Bool) :=
  (C135 A x1).bind fun r3 =>
  some (!r3)

/-- lineal code.isCell -/
noncomputable def C79 (A : Ar) (x1 : Int) : Option (Bool) :=
  (C47 A 0 x1 2).bind fun r3 =>
  some r3

/-- lineal code.isLine -/
noncomputable def C110 (A : Ar) (x1 : Int) (x2 : Int) (x3 : Int) (x4 : Int) (x5 : Int) : Option (Bool) :=
  bif (A.zeq x1 1) then
    ((
      (C138 A [(.int .i64 x2)]).bind fun r8 =>
      bif r8 then
        (C79 A x3).bind fun r11 =>
        bif r11 then
          some (A.zeq x4 0)
        else
          some false
      else
        some false : Option (Bool))).bind fun v13 =>
    some v13
  else
    bif (A.zeq x1 2) then
      ((
        (C79 A x2).bind fun r17 =>
        bif r17 then
          (C138 A [(.int .i64 x3)]).bind fun r20 =>
          bif r20 then
            some (A.zeq x4 0)
          else
            some false
        else
          some false : Option (Bool))).bind fun v22 =>
      some v22
    else
      bif (A.zeq x1 3) then
        ((
          (C79 A x2).bind fun r26 =>
          bif r26 then
            (C138 A [(.int .i64 x3), (.int .i64 x4)]).bind fun r29 =>
            some r29
          else
            some false : Option (Bool))).bind fun v30 =>
        some v30
      else
        bif (A.zeq x1 4) then
          ((
            (C138 A [(.int .i64 x2)]).bind fun r34 =>
            bif r34 then
              (C47 A 0 x3 9).bind fun r37 =>
              bif r37 then
                some (A.zeq x4 0)
              else
                some false
            else
              some false : Option (Bool))).bind fun v39 =>
          some v39
        else
          bif (A.zeq x1 5) then
            (C138 A [(.int .i64 x2), (.int .i64 x3), (.int .i64 x4)]).bind fun r43 =>
            some r43
          else
            bif (A.zeq x1 6) then
              ((
                (C138 A [(.int .i64 x2)]).bind fun r46 =>
                bif r46 then
                  (C47 A 0 x3 (A.wrp .i64 (A.zsub x5 1))).bind fun r49 =>
                  bif r49 then
                    some (A.zeq x4 0)
                  else
                    some false
                else
                  some false : Option (Bool))).bind fun v51 =>
              some v51
            else
              bif (A.zeq x1 7) then
                ((
                  (C138 A [(.int .i64 x2)]).bind fun r55 =>
                  bif r55 then
                    bif (A.zeq x3 0) then
                      some (A.zeq x4 0)
                    else
                      some false
                  else
                    some false : Option (Bool))).bind fun v58 =>
                some v58
              else
                some false

/-- lineal code.isCall$1 -/
noncomputable def C109 (A : Ar) (x1 : Int) (x2 : Int) (x3 : Int) (x4 : Int) (x5 : List D) : Option (Bool) :=
  (C110 A x1 x2 x3 x4 (A.len x5)).bind fun r7 =>
  some (!r7)

noncomputable def C137L0 (A : Ar) (x1 : List D) (x2 : List D) : Int → Option ((Int) ⊕ ((Unit) ⊕ (Int))) := fun v14 =>
  bif (A.zlt v14 (A.len x1)) then
    (gt A (cG (lc (cI .i64) (lc (cI .i64) (lc (cI .i64) (l1 (cI .i64)))))) x1 v14).bind fun (a16, a17, a18, a19) =>
    (C109 A a16 a17 a18 a19 x2).bind fun r24 =>
    bif r24 then
      some (.inr (.inr v14))
    else
      some (.inl (A.wrp .i64 (A.zadd v14 1)))
  else
    some (.inr (.inl ()))

/-- slices.IndexFunc   lineal api.Line lineal api.Line  -/
noncomputable def C137 (A : Ar) (x1 : List D) (x2 : List D) : Option (Int) :=
  (iter (C137L0 A x1 x2) 0).bind (Sum.elim (fun _ =>
    some (-1)) (fun v26 =>
    some v26))

/-- slices.ContainsFunc   lineal api.Line lineal api.Line  -/
noncomputable def C108 (A : Ar) (x1 : List D) (x2 : List D) : Option (Bool) :=
  (C137 A x1 x2).bind fun r4 =>
  some (A.zle 0 r4)

/-- lineal code.isCall -/
noncomputable def C50 (A : Ar) (x1 : List D) : Option (Bool) :=
  ((
    (C47 A 1 (A.len x1) 8).bind fun r3 =>
    bif r3 then
      (C108 A x1 x1).bind fun r6 =>
      bif r6 then
        some false
      else
        (gt A (cG (lc (cI .i64) (lc (cI .i64) (lc (cI .i64) (l1 (cI .i64)))))) x1 (A.wrp .i64 (A.zsub (A.len x1) 1))).bind fun (a8, a9, a10, a11) =>
        some (A.zeq a8 7)
    else
      some false : Option (Bool))).bind fun v15 =>
  some v15

/-- lineal code.Valid$1 -/
noncomputable def C49 (A : Ar) (x1 : List D) : Option (Bool) :=
  (C50 A x1).bind fun r3 =>
  some (!r3)

noncomputable def C107L0 (A : Ar) (x1 : List D) : Int → Option ((Int) ⊕ ((Unit) ⊕ (Int))) := fun v10 =>
  bif (A.zlt v10 (A.len x1)) then
    (gt A (cL 4) x1 v10).bind fun a12 =>
    (C49 A a12).bind fun r17 =>
    bif r17 then
      some (.inr (.inr v10))
    else
      some (.inl (A.wrp .i64 (A.zadd v10 1)))
  else
    some (.inr (.inl ()))

/-- slices.IndexFunc     lineal api.Line   lineal api.Line  -/
noncomputable def C107 (A : Ar) (x1 : List D) : Option (Int) :=
  (iter (C107L0 A x1) 0).bind (Sum.elim (fun _ =>
    some (-1)) (fun v19 =>
    some v19))

/-- slices.ContainsFunc     lineal api.Line   lineal api.Line  -/
noncomputable def C48 (A : Ar) (x1 : List D) : Option (Bool) :=
  (C107 A x1).bind fun r3 =>
  some (A.zle 0 r3)

/-- lineal code.Valid -/
noncomputable def C15 (A : Ar) (x1 : List D) : Option (Bool) :=
  ((
    (C47 A 1 (A.len x1) 4).bind fun r3 =>
    bif r3 then
      (C48 A x1).bind fun r6 =>
      some (!r6)
    else
      some false : Option (Bool))).bind fun v7 =>
  some v7

/-- lineal code.isWord$1 -/
noncomputable def C136 (A : Ar) (x1 : Int) (x2 : List D) : Option (Bool) :=
  (C47 A 0 x1 (A.wrp .i64 (A.zsub (A.len x2) 1))).bind fun r4 =>
  some (!r4)

noncomputable def C162aL0 (A : Ar) (x1 : List D) (x2 : List D) : Int → Option ((Int) ⊕ ((Unit) ⊕ (Int))) := fun v11 =>
  bif (A.zlt v11 (A.len x1)) then
    (gt A (cI .i64) x1 v11).bind fun a13 =>
    (C136 A a13 x2).bind fun r18 =>
    bif r18 then
      some (.inr (.inr v11))
    else
      some (.inl (A.wrp .i64 (A.zadd v11 1)))
  else
    some (.inr (.inl ()))

/-- slices.IndexFunc   int int  -/
noncomputable def C162a (A : Ar) (x1 : List D) (x2 : List D) : Option (Int) :=
  (iter (C162aL0 A x1 x2) 0).bind (Sum.elim (fun _ =>
    some (-1)) (fun v20 =>
    some v20))

/-- slices.ContainsFunc   int int  -/
noncomputable def C135a (A : Ar) (x1 : List D) (x2 : List D) : Option (Bool) :=
  (C162a A x1 x2).bind fun r4 =>
  some (A.zle 0 r4)

/-- lineal code.isWord -/
noncomputable def C103 (A : Ar) (x1 : List D) (x2 : List D) : Option (Bool) :=
  ((
    bif (A.zle (A.len x2) 3) then
      (C135a A x2 x1).bind fun r5 =>
      some (!r5)
    else
      some false : Option (Bool))).bind fun v6 =>
  some v6

/-- lineal code.isUse$1 -/
noncomputable def C102 (A : Ar) (x1 : List D) (x2 : List D) : Option (Bool) :=
  (C103 A x2 x1).bind fun r4 =>
  some (!r4)

noncomputable def C134L0 (A : Ar) (x1 : List D) (x2 : List D) : Int → Option ((Int) ⊕ ((Unit) ⊕ (Int))) := fun v11 =>
  bif (A.zlt v11 (A.len x1)) then
    (gt A (cL 1) x1 v11).bind fun a13 =>
    (C102 A a13 x2).bind fun r18 =>
    bif r18 then
      some (.inr (.inr v11))
    else
      some (.inl (A.wrp .i64 (A.zadd v11 1)))
  else
    some (.inr (.inl ()))

/-- slices.IndexFunc     int   int  -/
noncomputable def C134 (A : Ar) (x1 : List D) (x2 : List D) : Option (Int) :=
  (iter (C134L0 A x1 x2) 0).bind (Sum.elim (fun _ =>
    some (-1)) (fun v20 =>
    some v20))

/-- slices.ContainsFunc     int   int  -/
noncomputable def C101 (A : Ar) (x1 : List D) (x2 : List D) : Option (Bool) :=
  (C134 A x1 x2).bind fun r4 =>
  some (A.zle 0 r4)

/-- lineal code.isUse -/
noncomputable def C42 (A : Ar) (x1 : List D) (x2 : List D) : Option (Bool) :=
  ((
    (C47 A 1 (A.len x2) 2).bind fun r4 =>
    bif r4 then
      (C101 A x2 x1).bind fun r7 =>
      some (!r7)
    else
      some false : Option (Bool))).bind fun v8 =>
  some v8

/-- lineal code.checked -/
noncomputable def C89 (A : Ar) (x1 : List D) (x2 : List D) : Option (Int) :=
  (C15 A x1).bind fun r4 =>
  bif r4 then
    (C42 A x1 x2).bind fun r7 =>
    bif r7 then
      some 0
    else
      some 81
  else
    some 80

/-- lineal code.newRun -/
noncomputable def C69 (A : Ar) (x1 : List D) (x2 : List D) : Option (List D × List D) :=
  some (x1, x2)

/--  *lineal code.run .has -/
noncomputable def C70 (A : Ar) (x1 : Int) (x2 : List D) (x3 : List D) (x4 : Int) (x5 : Int) (x6 : Int) (x7 : Int) (x8 : Int) (x9 : Int) (x10 : Int) (x11 : Int) (x12 : Int) (x13 : Int) (x14 : Int) (x15 : Int) (x16 : Int) (x17 : Int) (x18 : Int) (x19 : Int) (x20 : Int) (x21 : Int) (x22 : List D) (x23 : List D) : Option (Bool) :=
  ((
    (C47 A 0 x1 (A.wrp .i64 (A.zsub (A.len x3) 1))).bind fun r25 =>
    bif r25 then
      bif (A.zeq x1 0) then
        (gt A (cL 1) x3 x1).bind fun a29 =>
        some (A.zlt x4 (A.len a29))
      else
        bif (A.zeq x1 1) then
          (gt A (cL 1) x3 x1).bind fun a36 =>
          some (A.zlt x11 (A.len a36))
        else
          none
    else
      some false : Option (Bool))).bind fun v41 =>
  some v41

/--  *lineal code.run .begun$1 -/
noncomputable def C143 (A : Ar) (x1 : Int) (x2 : Int) (x3 : Int) (x4 : Int) (x5 : Int) (x6 : Int) (x7 : Int) : Option (Bool) :=
  ((
    bif (A.zeq x1 x7) then
      some (A.zeq x6 0)
    else
      some false : Option (Bool))).bind fun v9 =>
  some v9

noncomputable def C166L0 (A : Ar) (x1 : Int) (x22 : List D) : Int → Option ((Int) ⊕ ((Unit) ⊕ (Int))) := fun v40 =>
  bif (A.zlt v40 (A.len x22)) then
    (ck (A.zle 0 v40)).bind fun _ =>
    (ck (A.zlt v40 (A.len x22))).bind fun _ =>
    (gc A (cG (lc (cI .i64) (lc (cI .i64) (lc (cI .i64) (lc (cI .i64) (lc (cI .i64) (l1 (cI .i64)))))))) x22 (A.nat v40)).bind fun (a46, a47, a48, a49, a50, a51) =>
    (C143 A a46 a47 a48 a49 a50 a51 x1).bind fun r55 =>
    bif r55 then
      some (.inr (.inr v40))
    else
      some (.inl (A.wrp .i64 (A.zadd v40 1)))
  else
    some (.inr (.inl ()))

/-- slices.IndexFunc   lineal api.Call lineal api.Call  -/
noncomputable def C166 (A : Ar) (x1 : Int) (x2 : List D) (x3 : List D) (x4 : Int) (x5 : Int) (x6 : Int) (x7 : Int) (x8 : Int) (x9 : Int) (x10 : Int) (x11 : Int) (x12 : Int) (x13 : Int) (x14 : Int) (x15 : Int) (x16 : Int) (x17 : Int) (x18 : Int) (x19 : Int) (x20 : Int) (x21 : Int) (x22 : List D) (x23 : List D) : Option (Int) :=
  (iter (C166L0 A x1 x22) 0).bind (Sum.elim (fun _ =>
    some (-1)) (fun v57 =>
    some v57))

/-- slices.ContainsFunc   lineal api.Call lineal api.Call  -/
noncomputable def C142 (A : Ar) (x1 : Int) (x2 : List D) (x3 : List D) (x4 : Int) (x5 : Int) (x6 : Int) (x7 : Int) (x8 : Int) (x9 : Int) (x10 : Int) (x11 : Int) (x12 : Int) (x13 : Int) (x14 : Int) (x15 : Int) (x16 : Int) (x17 : Int) (x18 : Int) (x19 : Int) (x20 : Int) (x21 : Int) (x22 : List D) (x23 : List D) : Option (Bool) :=
  (C166 A x1 x2 x3 x4 x5 x6 x7 x8 x9 x10 x11 x12 x13 x14 x15 x16 x17 x18 x19 x20 x21 x22 x23).bind fun r25 =>
  some (A.zle 0 r25)

/--  *lineal code.run .begun -/
noncomputable def C116 (A : Ar) (x1 : Int) (x2 : List D) (x3 : List D) (x4 : Int) (x5 : Int) (x6 : Int) (x7 : Int) (x8 : Int) (x9 : Int) (x10 : Int) (x11 : Int) (x12 : Int) (x13 : Int) (x14 : Int) (x15 : Int) (x16 : Int) (x17 : Int) (x18 : Int) (x19 : Int) (x20 : Int) (x21 : Int) (x22 : List D) (x23 : List D) : Option (Bool) :=
  (C142 A x1 x2 x3 x4 x5 x6 x7 x8 x9 x10 x11 x12 x13 x14 x15 x16 x17 x18 x19 x20 x21 x22 x23).bind fun r25 =>
  some r25

/-- lineal code.start -/
noncomputable def C117 (A : Ar) : Option (Unit) :=
  some ()

/--  *lineal code.run .swap -/
noncomputable def C118 (A : Ar) (x1 : Int) (x2 : Int) (x3 : Int) (x4 : Int) (x5 : List D) (x6 : List D) (x7 : Int) (x8 : Int) (x9 : Int) (x10 : Int) (x11 : Int) (x12 : Int) (x13 : Int) (x14 : Int) (x15 : Int) (x16 : Int) (x17 : Int) (x18 : Int) (x19 : Int) (x20 : Int) (x21 : Int) (x22 : Int) (x23 : Int) (x24 : Int) (x25 : List D) (x26 : List D) : Option (Int × Int × Int × Int) :=
  (ck (A.zle 0 x2)).bind fun _ =>
  (ck (A.zlt x2 (Int.ofNat 3))).bind fun _ =>
  (gc A (cI .i64) [(.int .i64 x21), (.int .i64 x22), (.int .i64 x23)] (A.nat x2)).bind fun a31 =>
  (ck (A.zle 0 x3)).bind fun _ =>
  (ck (A.zlt x3 (Int.ofNat 4))).bind fun _ =>
  (gc A (cI .i64) [(.int .i64 x9), (.int .i64 x10), (.int .i64 x11), (.int .i64 x12)] (A.nat x3)).bind fun a38 =>
  bif (A.zeq a31 a38) then
    (ck (A.zle 0 x4)).bind fun _ =>
    (ck (A.zlt x4 (Int.ofNat 4))).bind fun _ =>
    (gc A (cI .i64) [(.int .i64 x9), (.int .i64 x10), (.int .i64 x11), (.int .i64 x12)] (A.nat x4)).bind fun a46 =>
    (ck (A.zle 0 x2)).bind fun _ =>
    (ck (A.zlt x2 (Int.ofNat 3))).bind fun _ =>
    some (1, (bif A.zeq x2 (Int.ofNat 0) then a46 else x21), (bif A.zeq x2 (Int.ofNat 1) then a46 else x22), (bif A.zeq x2 (Int.ofNat 2) then a46 else x23))
  else
    some (0, x21, x22, x23)

/--  *lineal code.run .swap -/
noncomputable def C118a (A : Ar) (x1 : Int) (x2 : Int) (x3 : Int) (x4 : Int) (x5 : List D) (x6 : List D) (x7 : Int) (x8 : Int) (x9 : Int) (x10 : Int) (x11 : Int) (x12 : Int) (x13 : Int) (x14 : Int) (x15 : Int) (x16 : Int) (x17 : Int) (x18 : Int) (x19 : Int) (x20 : Int) (x21 : Int) (x22 : Int) (x23 : Int) (x24 : Int) (x25 : List D) (x26 : List D) : Option (Int × Int × Int × Int) :=
  (ck (A.zle 0 x2)).bind fun _ =>
  (ck (A.zlt x2 (Int.ofNat 3))).bind fun _ =>
  (gc A (cI .i64) [(.int .i64 x21), (.int .i64 x22), (.int .i64 x23)] (A.nat x2)).bind fun a31 =>
  (ck (A.zle 0 x3)).bind fun _ =>
  (ck (A.zlt x3 (Int.ofNat 4))).bind fun _ =>
  (gc A (cI .i64) [(.int .i64 x16), (.int .i64 x17), (.int .i64 x18), (.int .i64 x19)] (A.nat x3)).bind fun a38 =>
  bif (A.zeq a31 a38) then
    (ck (A.zle 0 x4)).bind fun _ =>
    (ck (A.zlt x4 (Int.ofNat 4))).bind fun _ =>
    (gc A (cI .i64) [(.int .i64 x16), (.int .i64 x17), (.int .i64 x18), (.int .i64 x19)] (A.nat x4)).bind fun a46 =>
    (ck (A.zle 0 x2)).bind fun _ =>
    (ck (A.zlt x2 (Int.ofNat 3))).bind fun _ =>
    some (1, (bif A.zeq x2 (Int.ofNat 0) then a46 else x21), (bif A.zeq x2 (Int.ofNat 1) then a46 else x22), (bif A.zeq x2 (Int.ofNat 2) then a46 else x23))
  else
    some (0, x21, x22, x23)

/--  *lineal code.run .step -/
noncomputable def C71 (A : Ar) (x1 : Int) (x2 : List D) (x3 : List D) (x4 : List D) (x5 : Int) (x6 : Int) (x7 : Int) (x8 : Int) (x9 : Int) (x10 : Int) (x11 : Int) (x12 : Int) (x13 : Int) (x14 : Int) (x15 : Int) (x16 : Int) (x17 : Int) (x18 : Int) (x19 : Int) (x20 : Int) (x21 : Int) (x22 : Int) (x23 : List D) (x24 : List D) : Option (List D × List D × Int × Int × Int × Int × Int × Int × Int × Int × Int × Int × Int × Int × Int × Int × Int × Int × Int × Int × List D × List D) :=
  bif (A.zeq x1 0) then
    (gt A (cL 1) x4 x1).bind fun a29 =>
    (gt A (cI .i64) a29 x5).bind fun a33 =>
    ((
      bif (A.zeq x6 0) then
        (C116 A x1 x3 x4 x5 x6 x7 x8 x9 x10 x11 x12 x13 x14 x15 x16 x17 x18 x19 x20 x21 x22 x23 x24).bind fun r39 =>
        some (!r39)
      else
        some false : Option (Bool))).bind fun v40 =>
    ((
      bif v40 then
        (C117 A).bind fun () =>
        (ap A x23 [(.agg [(.int .i64 x1), (.int .i64 0), (.int .i64 a33), (.int .i64 0), (.int .i64 (A.wrp .i64 (A.zadd (A.wrp .i64 (A.zmul 2 x22)) 1))), (.int .i64 0)])]).bind fun l44 =>
        (ap A x24 [(.int .i64 0)]).bind fun l48 =>
        some (0, 1, 0, 0, (A.len x23), l44, l48)
      else
        some (x7, x8, x9, x10, x11, x23, x24) : Option (Int × Int × Int × Int × Int × List D × List D))).bind fun (v52, v53, v54, v55, v56, v57, v58) =>
    ((
      bif (A.zlt 0 (A.len x2)) then
        (gt A (cI .i64) x2 a33).bind fun a61 =>
        some (A.zeq a61 x6)
      else
        some false : Option (Bool))).bind fun v65 =>
    ((
      bif v65 then
        (ck (A.zle 0 v56)).bind fun _ =>
        (ck (A.zlt v56 (A.len v58))).bind fun _ =>
        (gc A (cI .i64) v58 (A.nat v56)).bind fun a72 =>
        some (A.lset v58 (A.nat v56) (.int .i64 (A.wrp .i64 (A.zadd x22 1))))
      else
        some v58 : Option (List D))).bind fun v75 =>
    (gt A (cL 4) x3 a33).bind fun a77 =>
    (gt A (cG (lc (cI .i64) (lc (cI .i64) (lc (cI .i64) (l1 (cI .i64)))))) a77 x6).bind fun (a81, a82, a83, a84) =>
    ((
      bif (A.zeq a81 1) then
        (ck (A.zle 0 a83)).bind fun _ =>
        (ck (A.zlt a83 (Int.ofNat 3))).bind fun _ =>
        (gc A (cI .i64) [(.int .i64 x19), (.int .i64 x20), (.int .i64 x21)] (A.nat a83)).bind fun a93 =>
        (ck (A.zle 0 a82)).bind fun _ =>
        (ck (A.zlt a82 (Int.ofNat 4))).bind fun _ =>
        some (x5, (A.wrp .i64 (A.zadd x6 1)), (bif A.zeq a82 (Int.ofNat 0) then a93 else v52), (bif A.zeq a82 (Int.ofNat 1) then a93 else v53), (bif A.zeq a82 (Int.ofNat 2) then a93 else v54), (bif A.zeq a82 (Int.ofNat 3) then a93 else v55), x19, x20, x21, v57)
      else
        ((
          bif (A.zeq a81 2) then
            (ck (A.zle 0 a83)).bind fun _ =>
            (ck (A.zlt a83 (Int.ofNat 4))).bind fun _ =>
            (gc A (cI .i64) [(.int .i64 v52), (.int .i64 v53), (.int .i64 v54), (.int .i64 v55)] (A.nat a83)).bind fun a105 =>
            (ck (A.zle 0 a82)).bind fun _ =>
            (ck (A.zlt a82 (Int.ofNat 3))).bind fun _ =>
            some (x5, (A.wrp .i64 (A.zadd x6 1)), v52, v53, v54, v55, (bif A.zeq a82 (Int.ofNat 0) then a105 else x19), (bif A.zeq a82 (Int.ofNat 1) then a105 else x20), (bif A.zeq a82 (Int.ofNat 2) then a105 else x21), v57)
          else
            ((
              bif (A.zeq a81 3) then
                (C118 A a81 a82 a83 a84 x3 x4 x5 (A.wrp .i64 (A.zadd x6 1)) v52 v53 v54 v55 v56 x12 x13 x14 x15 x16 x17 x18 x19 x20 x21 (A.wrp .i64 (A.zadd x22 1)) v57 v75).bind fun (r114, r115, r116, r117) =>
                some (x5, (A.wrp .i64 (A.zadd x6 1)), v52, v53, v54, r114, r115, r116, r117, v57)
              else
                ((
                  bif (A.zeq a81 4) then
                    (ck (A.zle 0 a82)).bind fun _ =>
                    (ck (A.zlt a82 (Int.ofNat 4))).bind fun _ =>
                    some (x5, (A.wrp .i64 (A.zadd x6 1)), (bif A.zeq a82 (Int.ofNat 0) then a83 else v52), (bif A.zeq a82 (Int.ofNat 1) then a83 else v53), (bif A.zeq a82 (Int.ofNat 2) then a83 else v54), (bif A.zeq a82 (Int.ofNat 3) then a83 else v55), v57)
                  else
                    ((
                      bif (A.zeq a81 5) then
                        (ck (A.zle 0 a83)).bind fun _ =>
                        (ck (A.zlt a83 (Int.ofNat 4))).bind fun _ =>
                        (gc A (cI .i64) [(.int .i64 v52), (.int .i64 v53), (.int .i64 v54), (.int .i64 v55)] (A.nat a83)).bind fun a128 =>
                        (ck (A.zle 0 a84)).bind fun _ =>
                        (ck (A.zlt a84 (Int.ofNat 4))).bind fun _ =>
                        (gc A (cI .i64) [(.int .i64 v52), (.int .i64 v53), (.int .i64 v54), (.int .i64 v55)] (A.nat a84)).bind fun a135 =>
                        (nk (A.zeq 10 0)).bind fun _ =>
                        (ck (A.zle 0 a82)).bind fun _ =>
                        (ck (A.zlt a82 (Int.ofNat 4))).bind fun _ =>
                        some (x5, (A.wrp .i64 (A.zadd x6 1)), (bif A.zeq a82 (Int.ofNat 0) then (A.rem (A.wrp .i64 (A.zadd a128 a135)) 10) else v52), (bif A.zeq a82 (Int.ofNat 1) then (A.rem (A.wrp .i64 (A.zadd a128 a135)) 10) else v53), (bif A.zeq a82 (Int.ofNat 2) then (A.rem (A.wrp .i64 (A.zadd a128 a135)) 10) else v54), (bif A.zeq a82 (Int.ofNat 3) then (A.rem (A.wrp .i64 (A.zadd a128 a135)) 10) else v55), v57)
                      else
                        ((
                          bif (A.zeq a81 6) then
                            (ck (A.zle 0 a82)).bind fun _ =>
                            (ck (A.zlt a82 (Int.ofNat 4))).bind fun _ =>
                            (gc A (cI .i64) [(.int .i64 v52), (.int .i64 v53), (.int .i64 v54), (.int .i64 v55)] (A.nat a82)).bind fun a149 =>
                            ((
                              bif (A.zeq a149 0) then
                                some a83
                              else
                                some (A.wrp .i64 (A.zadd x6 1)) : Option (Int))).bind fun v153 =>
                            some (x5, v153, v57)
                          else
                            ((
                              bif (A.zeq a81 7) then
                                (ck (A.zle 0 v56)).bind fun _ =>
                                (ck (A.zlt v56 (A.len v57))).bind fun _ =>
                                (ck (A.zle 0 a82)).bind fun _ =>
                                (ck (A.zlt a82 (Int.ofNat 4))).bind fun _ =>
                                (gc A (cI .i64) [(.int .i64 v52), (.int .i64 v53), (.int .i64 v54), (.int .i64 v55)] (A.nat a82)).bind fun a164 =>
                                (gc A (cG (lc (cI .i64) (lc (cI .i64) (lc (cI .i64) (lc (cI .i64) (lc (cI .i64) (l1 (cI .i64)))))))) v57 (A.nat v56)).bind fun (a167, a168, a169, a170, a171, a172) =>
                                (gc A (cG (lc (cI .i64) (lc (cI .i64) (lc (cI .i64) (lc (cI .i64) (lc (cI .i64) (l1 (cI .i64)))))))) (A.lset v57 (A.nat v56) (.agg [(.int .i64 a167), (.int .i64 a168), (.int .i64 a169), (.int .i64 a170), (.int .i64 a171), (.int .i64 (A.wrp .i64 (A.zmul 2 (A.wrp .i64 (A.zadd x22 1)))))])) (A.nat v56)).bind fun (a175, a176, a177, a178, a179, a180) =>
                                some ((A.wrp .i64 (A.zadd x5 1)), 0, (A.lset (A.lset v57 (A.nat v56) (.agg [(.int .i64 a167), (.int .i64 a168), (.int .i64 a169), (.int .i64 a170), (.int .i64 a171), (.int .i64 (A.wrp .i64 (A.zmul 2 (A.wrp .i64 (A.zadd x22 1)))))])) (A.nat v56) (.agg [(.int .i64 a175), (.int .i64 a176), (.int .i64 a177), (.int .i64 a164), (.int .i64 a179), (.int .i64 a180)])))
                              else
                                some (x5, (A.wrp .i64 (A.zadd x6 1)), v57) : Option (Int × Int × List D))).bind fun (v183, v184, v185) =>
                            some (v183, v184, v185) : Option (Int × Int × List D))).bind fun (v187, v188, v189) =>
                        some (v187, v188, v52, v53, v54, v55, v189) : Option (Int × Int × Int × Int × Int × Int × List D))).bind fun (v191, v192, v193, v194, v195, v196, v197) =>
                    some (v191, v192, v193, v194, v195, v196, v197) : Option (Int × Int × Int × Int × Int × Int × List D))).bind fun (v199, v200, v201, v202, v203, v204, v205) =>
                some (v199, v200, v201, v202, v203, v204, x19, x20, x21, v205) : Option (Int × Int × Int × Int × Int × Int × Int × Int × Int × List D))).bind fun (v207, v208, v209, v210, v211, v212, v213, v214, v215, v216) =>
            some (v207, v208, v209, v210, v211, v212, v213, v214, v215, v216) : Option (Int × Int × Int × Int × Int × Int × Int × Int × Int × List D))).bind fun (v218, v219, v220, v221, v222, v223, v224, v225, v226, v227) =>
        some (v218, v219, v220, v221, v222, v223, v224, v225, v226, v227) : Option (Int × Int × Int × Int × Int × Int × Int × Int × Int × List D))).bind fun (v229, v230, v231, v232, v233, v234, v235, v236, v237, v238) =>
    some (x3, x4, v229, v230, v231, v232, v233, v234, v56, x12, x13, x14, x15, x16, x17, x18, v235, v236, v237, (A.wrp .i64 (A.zadd x22 1)), v238, v75)
  else
    bif (A.zeq x1 1) then
      (gt A (cL 1) x4 x1).bind fun a240 =>
      (gt A (cI .i64) a240 x12).bind fun a244 =>
      ((
        bif (A.zeq x13 0) then
          (C116 A x1 x3 x4 x5 x6 x7 x8 x9 x10 x11 x12 x13 x14 x15 x16 x17 x18 x19 x20 x21 x22 x23 x24).bind fun r250 =>
          some (!r250)
        else
          some false : Option (Bool))).bind fun v251 =>
      ((
        bif v251 then
          (C117 A).bind fun () =>
          (ap A x23 [(.agg [(.int .i64 x1), (.int .i64 0), (.int .i64 a244), (.int .i64 0), (.int .i64 (A.wrp .i64 (A.zadd (A.wrp .i64 (A.zmul 2 x22)) 1))), (.int .i64 0)])]).bind fun l255 =>
          (ap A x24 [(.int .i64 0)]).bind fun l259 =>
          some (0, 1, 0, 0, (A.len x23), l255, l259)
        else
          some (x14, x15, x16, x17, x18, x23, x24) : Option (Int × Int × Int × Int × Int × List D × List D))).bind fun (v263, v264, v265, v266, v267, v268, v269) =>
      ((
        bif (A.zlt 0 (A.len x2)) then
          (gt A (cI .i64) x2 a244).bind fun a272 =>
          some (A.zeq a272 x13)
        else
          some false : Option (Bool))).bind fun v276 =>
      ((
        bif v276 then
          (ck (A.zle 0 v267)).bind fun _ =>
          (ck (A.zlt v267 (A.len v269))).bind fun _ =>
          (gc A (cI .i64) v269 (A.nat v267)).bind fun a283 =>
          some (A.lset v269 (A.nat v267) (.int .i64 (A.wrp .i64 (A.zadd x22 1))))
        else
          some v269 : Option (List D))).bind fun v286 =>
      (gt A (cL 4) x3 a244).bind fun a288 =>
      (gt A (cG (lc (cI .i64) (lc (cI .i64) (lc (cI .i64) (l1 (cI .i64)))))) a288 x13).bind fun (a292, a293, a294, a295) =>
      ((
        bif (A.zeq a292 1) then
          (ck (A.zle 0 a294)).bind fun _ =>
          (ck (A.zlt a294 (Int.ofNat 3))).bind fun _ =>
          (gc A (cI .i64) [(.int .i64 x19), (.int .i64 x20), (.int .i64 x21)] (A.nat a294)).bind fun a304 =>
          (ck (A.zle 0 a293)).bind fun _ =>
          (ck (A.zlt a293 (Int.ofNat 4))).bind fun _ =>
          some (x12, (A.wrp .i64 (A.zadd x13 1)), (bif A.zeq a293 (Int.ofNat 0) then a304 else v263), (bif A.zeq a293 (Int.ofNat 1) then a304 else v264), (bif A.zeq a293 (Int.ofNat 2) then a304 else v265), (bif A.zeq a293 (Int.ofNat 3) then a304 else v266), x19, x20, x21, v268)
        else
          ((
            bif (A.zeq a292 2) then
              (ck (A.zle 0 a294)).bind fun _ =>
              (ck (A.zlt a294 (Int.ofNat 4))).bind fun _ =>
              (gc A (cI .i64) [(.int .i64 v263), (.int .i64 v264), (.int .i64 v265), (.int .i64 v266)] (A.nat a294)).bind fun a316 =>
              (ck (A.zle 0 a293)).bind fun _ =>
              (ck (A.zlt a293 (Int.ofNat 3))).bind fun _ =>
              some (x12, (A.wrp .i64 (A.zadd x13 1)), v263, v264, v265, v266, (bif A.zeq a293 (Int.ofNat 0) then a316 else x19), (bif A.zeq a293 (Int.ofNat 1) then a316 else x20), (bif A.zeq a293 (Int.ofNat 2) then a316 else x21), v268)
            else
              ((
                bif (A.zeq a292 3) then
                  (C118a A a292 a293 a294 a295 x3 x4 x5 x6 x7 x8 x9 x10 x11 x12 (A.wrp .i64 (A.zadd x13 1)) v263 v264 v265 v266 v267 x19 x20 x21 (A.wrp .i64 (A.zadd x22 1)) v268 v286).bind fun (r325, r326, r327, r328) =>
                  some (x12, (A.wrp .i64 (A.zadd x13 1)), v263, v264, v265, r325, r326, r327, r328, v268)
                else
                  ((
                    bif (A.zeq a292 4) then
                      (ck (A.zle 0 a293)).bind fun _ =>
                      (ck (A.zlt a293 (Int.ofNat 4))).bind fun _ =>
                      some (x12, (A.wrp .i64 (A.zadd x13 1)), (bif A.zeq a293 (Int.ofNat 0) then a294 else v263), (bif A.zeq a293 (Int.ofNat 1) then a294 else v264), (bif A.zeq a293 (Int.ofNat 2) then a294 else v265), (bif A.zeq a293 (Int.ofNat 3) then a294 else v266), v268)
                    else
                      ((
                        bif (A.zeq a292 5) then
                          (ck (A.zle 0 a294)).bind fun _ =>
                          (ck (A.zlt a294 (Int.ofNat 4))).bind fun _ =>
                          (gc A (cI .i64) [(.int .i64 v263), (.int .i64 v264), (.int .i64 v265), (.int .i64 v266)] (A.nat a294)).bind fun a339 =>
                          (ck (A.zle 0 a295)).bind fun _ =>
                          (ck (A.zlt a295 (Int.ofNat 4))).bind fun _ =>
                          (gc A (cI .i64) [(.int .i64 v263), (.int .i64 v264), (.int .i64 v265), (.int .i64 v266)] (A.nat a295)).bind fun a346 =>
                          (nk (A.zeq 10 0)).bind fun _ =>
                          (ck (A.zle 0 a293)).bind fun _ =>
                          (ck (A.zlt a293 (Int.ofNat 4))).bind fun _ =>
                          some (x12, (A.wrp .i64 (A.zadd x13 1)), (bif A.zeq a293 (Int.ofNat 0) then (A.rem (A.wrp .i64 (A.zadd a339 a346)) 10) else v263), (bif A.zeq a293 (Int.ofNat 1) then (A.rem (A.wrp .i64 (A.zadd a339 a346)) 10) else v264), (bif A.zeq a293 (Int.ofNat 2) then (A.rem (A.wrp .i64 (A.zadd a339 a346)) 10) else v265), (bif A.zeq a293 (Int.ofNat 3) then (A.rem (A.wrp .i64 (A.zadd a339 a346)) 10) else v266), v268)
                        else
                          ((
                            bif (A.zeq a292 6) then
                              (ck (A.zle 0 a293)).bind fun _ =>
                              (ck (A.zlt a293 (Int.ofNat 4))).bind fun _ =>
                              (gc A (cI .i64) [(.int .i64 v263), (.int .i64 v264), (.int .i64 v265), (.int .i64 v266)] (A.nat a293)).bind fun a360 =>
                              ((
                                bif (A.zeq a360 0) then
                                  some a294
                                else
                                  some (A.wrp .i64 (A.zadd x13 1)) : Option (Int))).bind fun v364 =>
                              some (x12, v364, v268)
                            else
                              ((
                                bif (A.zeq a292 7) then
                                  (ck (A.zle 0 v267)).bind fun _ =>
                                  (ck (A.zlt v267 (A.len v268))).bind fun _ =>
                                  (ck (A.zle 0 a293)).bind fun _ =>
                                  (ck (A.zlt a293 (Int.ofNat 4))).bind fun _ =>
                                  (gc A (cI .i64) [(.int .i64 v263), (.int .i64 v264), (.int .i64 v265), (.int .i64 v266)] (A.nat a293)).bind fun a375 =>
                                  (gc A (cG (lc (cI .i64) (lc (cI .i64) (lc (cI .i64) (lc (cI .i64) (lc (cI .i64) (l1 (cI .i64)))))))) v268 (A.nat v267)).bind fun (a378, a379, a380, a381, a382, a383) =>
                                  (gc A (cG (lc (cI .i64) (lc (cI .i64) (lc (cI .i64) (lc (cI .i64) (lc (cI .i64) (l1 (cI .i64)))))))) (A.lset v268 (A.nat v267) (.agg [(.int .i64 a378), (.int .i64 a379), (.int .i64 a380), (.int .i64 a381), (.int .i64 a382), (.int .i64 (A.wrp .i64 (A.zmul 2 (A.wrp .i64 (A.zadd x22 1)))))])) (A.nat v267)).bind fun (a386, a387, a388, a389, a390, a391) =>
                                  some ((A.wrp .i64 (A.zadd x12 1)), 0, (A.lset (A.lset v268 (A.nat v267) (.agg [(.int .i64 a378), (.int .i64 a379), (.int .i64 a380), (.int .i64 a381), (.int .i64 a382), (.int .i64 (A.wrp .i64 (A.zmul 2 (A.wrp .i64 (A.zadd x22 1)))))])) (A.nat v267) (.agg [(.int .i64 a386), (.int .i64 a387), (.int .i64 a388), (.int .i64 a375), (.int .i64 a390), (.int .i64 a391)])))
                                else
                                  some (x12, (A.wrp .i64 (A.zadd x13 1)), v268) : Option (Int × Int × List D))).bind fun (v394, v395, v396) =>
                              some (v394, v395, v396) : Option (Int × Int × List D))).bind fun (v398, v399, v400) =>
                          some (v398, v399, v263, v264, v265, v266, v400) : Option (Int × Int × Int × Int × Int × Int × List D))).bind fun (v402, v403, v404, v405, v406, v407, v408) =>
                      some (v402, v403, v404, v405, v406, v407, v408) : Option (Int × Int × Int × Int × Int × Int × List D))).bind fun (v410, v411, v412, v413, v414, v415, v416) =>
                  some (v410, v411, v412, v413, v414, v415, x19, x20, x21, v416) : Option (Int × Int × Int × Int × Int × Int × Int × Int × Int × List D))).bind fun (v418, v419, v420, v421, v422, v423, v424, v425, v426, v427) =>
              some (v418, v419, v420, v421, v422, v423, v424, v425, v426, v427) : Option (Int × Int × Int × Int × Int × Int × Int × Int × Int × List D))).bind fun (v429, v430, v431, v432, v433, v434, v435, v436, v437, v438) =>
          some (v429, v430, v431, v432, v433, v434, v435, v436, v437, v438) : Option (Int × Int × Int × Int × Int × Int × Int × Int × Int × List D))).bind fun (v440, v441, v442, v443, v444, v445, v446, v447, v448, v449) =>
      some (x3, x4, x5, x6, x7, x8, x9, x10, x11, v440, v441, v442, v443, v444, v445, v267, v446, v447, v448, (A.wrp .i64 (A.zadd x22 1)), v449, v286)
    else
      none

noncomputable def C104L0 (A : Ar) (x3 : List D) (x4 : List D) : (Int × List D × List D × Int × Int × Int × Int × Int × Int × Int × Int × Int × Int × Int × Int × Int × Int × Int × Int × Int × Int × List D × List D) → Option ((Int × List D × List D × Int × Int × Int × Int × Int × Int × Int × Int × Int × Int × Int × Int × Int × Int × Int × Int × Int × Int × List D × List D) ⊕ ((List D × List D × Int × Int × Int × Int × Int × Int × Int × Int × Int × Int × Int × Int × Int × Int × Int × Int × Int × Int × List D × List D) ⊕ (List D × List D × Int × Int × Int × Int × Int × Int × Int × Int × Int × Int × Int × Int × Int × Int × Int × Int × Int × Int × List D × List D × List D × List D × Int × Int × Int × Int × Int × Int × Int × Int × Int × Int × Int × Int × Int × Int × Int × Int × Int × Int × List D × List D))) := fun (v40, v41, v42, v43, v44, v45, v46, v47, v48, v49, v50, v51, v52, v53, v54, v55, v56, v57, v58, v59, v60, v61, v62) =>
  bif (A.zlt v40 (A.len x3)) then
    (gt A (cI .i64) x3 v40).bind fun a64 =>
    (C70 A a64 v41 v42 v43 v44 v45 v46 v47 v48 v49 v50 v51 v52 v53 v54 v55 v56 v57 v58 v59 v60 v61 v62).bind fun r69 =>
    bif r69 then
      (C71 A a64 x4 v41 v42 v43 v44 v45 v46 v47 v48 v49 v50 v51 v52 v53 v54 v55 v56 v57 v58 v59 v60 v61 v62).bind fun (r72, r73, r74, r75, r76, r77, r78, r79, r80, r81, r82, r83, r84, r85, r86, r87, r88, r89, r90, r91, r92, r93) =>
      some (.inl ((A.wrp .i64 (A.zadd v40 1)), r72, r73, r74, r75, r76, r77, r78, r79, r80, r81, r82, r83, r84, r85, r86, r87, r88, r89, r90, r91, r92, r93))
    else
      some (.inr (.inr (v41, v42, v43, v44, v45, v46, v47, v48, v49, v50, v51, v52, v53, v54, v55, v56, v57, v58, v59, v60, v61, v62, v41, v42, v43, v44, v45, v46, v47, v48, v49, v50, v51, v52, v53, v54, v55, v56, v57, v58, v59, v60, v61, v62)))
  else
    some (.inr (.inl (v41, v42, v43, v44, v45, v46, v47, v48, v49, v50, v51, v52, v53, v54, v55, v56, v57, v58, v59, v60, v61, v62)))

/-- lineal code.done -/
noncomputable def C104 (A : Ar) (x1 : List D) (x2 : List D) (x3 : List D) (x4 : List D) : Option (List D × List D × Int × Int × Int × Int × Int × Int × Int × Int × Int × Int × Int × Int × Int × Int × Int × Int × Int × Int × List D × List D × Bool) :=
  (C69 A x1 x2).bind fun (r6, r7) =>
  bif (A.zlt 12 (A.len x3)) then
    some (r6, r7, 0, 0, 0, 0, 0, 0, 0, 0, 0, 0, 0, 0, 0, 0, 0, 0, 0, 0, [], [], false)
  else
    (iter (C104L0 A x3 x4) (0, r6, r7, 0, 0, 0, 0, 0, 0, 0, 0, 0, 0, 0, 0, 0, 0, 0, 0, 0, 0, [], [])).bind (Sum.elim (fun (v94, v95, v96, v97, v98, v99, v100, v101, v102, v103, v104, v105, v106, v107, v108, v109, v110, v111, v112, v113, v114, v115) =>
      some (v94, v95, v96, v97, v98, v99, v100, v101, v102, v103, v104, v105, v106, v107, v108, v109, v110, v111, v112, v113, v114, v115, true)) (fun (v116, v117, v118, v119, v120, v121, v122, v123, v124, v125, v126, v127, v128, v129, v130, v131, v132, v133, v134, v135, v136, v137, v138, v139, v140, v141, v142, v143, v144, v145, v146, v147, v148, v149, v150, v151, v152, v153, v154, v155, v156, v157, v158, v159) =>
      some (v116, v117, v118, v119, v120, v121, v122, v123, v124, v125, v126, v127, v128, v129, v130, v131, v132, v133, v134, v135, v136, v137, false)))

/-- lineal code.Run$1 -/
noncomputable def C45 (A : Ar) (x1 : List D) (x2 : List D) (x3 : Int) (x4 : Int) (x5 : Int) (x6 : Int) (x7 : Int) (x8 : Int) (x9 : Int) (x10 : Int) (x11 : Int) (x12 : Int) (x13 : Int) (x14 : Int) (x15 : Int) (x16 : Int) (x17 : Int) (x18 : Int) (x19 : Int) (x20 : Int) (x21 : List D) (x22 : List D) (x23 : List D) : Option (List D) :=
  some x21

/-- lineal code.behind -/
noncomputable def C44 (A : Ar) (x1 : List D) (x2 : List D) (x3 : List D) (x4 : List D) : Option ((List D) ⊕ (Int)) :=
  (C89 A x1 x2).bind fun r6 =>
  bif (A.zeq r6 0) then
    (C104 A x1 x2 x3 []).bind fun (r9, r10, r11, r12, r13, r14, r15, r16, r17, r18, r19, r20, r21, r22, r23, r24, r25, r26, r27, r28, r29, r30, r31) =>
    bif r31 then
      (C45 A r9 r10 r11 r12 r13 r14 r15 r16 r17 r18 r19 r20 r21 r22 r23 r24 r25 r26 r27 r28 r29 r30 x4).bind fun r34 =>
      some (.inl r34)
    else
      some (.inr 2)
  else
    some (.inr r6)

/-- lineal code.Run -/
noncomputable def C13 (A : Ar) (x1 : List D) (x2 : List D) (x3 : List D) : Option (List D × Int) :=
  ((
    (C44 A x1 x2 x3 []).bind (Sum.elim (fun r5 =>
      some (0, r5)) (fun r6 =>
      some (r6, []))) : Option (Int × List D))).bind fun (v8, v9) =>
  some (v9, v8)

/-- lineal lineallaw08.Sane -/
noncomputable def C10 (A : Ar) : Option (Bool) :=
  (C13 A [(.list 4 [(.agg [(.int .i64 1), (.int .i64 0), (.int .i64 0), (.int .i64 0)]), (.agg [(.int .i64 5), (.int .i64 2), (.int .i64 0), (.int .i64 1)]), (.agg [(.int .i64 2), (.int .i64 0), (.int .i64 2), (.int .i64 0)]), (.agg [(.int .i64 7), (.int .i64 0), (.int .i64 0), (.int .i64 0)])])] [(.list 1 [(.int .i64 0)]), (.list 1 [(.int .i64 0)])] [(.int .i64 0), (.int .i64 0), (.int .i64 1), (.int .i64 1), (.int .i64 0), (.int .i64 0), (.int .i64 1), (.int .i64 1)]).bind fun (r2, r3) =>
  ((
    bif (A.zeq r3 0) then
      bif (A.zeq (A.len r2) 2) then
        (gc A (cG (lc (cI .i64) (lc (cI .i64) (lc (cI .i64) (lc (cI .i64) (lc (cI .i64) (l1 (cI .i64)))))))) r2 0).bind fun (a6, a7, a8, a9, a10, a11) =>
        bif (A.deq [(.int .i64 a6), (.int .i64 a7), (.int .i64 a8), (.int .i64 a9), (.int .i64 a10), (.int .i64 a11)] [(.int .i64 0), (.int .i64 0), (.int .i64 0), (.int .i64 0), (.int .i64 1), (.int .i64 12)]) then
          (gc A (cG (lc (cI .i64) (lc (cI .i64) (lc (cI .i64) (lc (cI .i64) (lc (cI .i64) (l1 (cI .i64)))))))) r2 1).bind fun (a15, a16, a17, a18, a19, a20) =>
          some (A.deq [(.int .i64 a15), (.int .i64 a16), (.int .i64 a17), (.int .i64 a18), (.int .i64 a19), (.int .i64 a20)] [(.int .i64 1), (.int .i64 0), (.int .i64 0), (.int .i64 0), (.int .i64 5), (.int .i64 16)])
        else
          some false
      else
        some false
    else
      some false : Option (Bool))).bind fun v23 =>
  some v23

/-- lineal linealref08.within -/
noncomputable def C51 (A : Ar) (x1 : Int) (x2 : Int) (x3 : Int) : Option (Bool) :=
  ((
    bif (A.zle x1 x2) then
      some (A.zle x2 x3)
    else
      some false : Option (Bool))).bind fun v5 =>
  some v5

/-- lineal linealref08.isRegister -/
noncomputable def C111 (A : Ar) (x1 : Int) : Option (Bool) :=
  (C51 A 0 x1 3).bind fun r3 =>
  some r3

/-- lineal linealref08.isCell -/
noncomputable def C82 (A : Ar) (x1 : Int) : Option (Bool) :=
  (C51 A 0 x1 2).bind fun r3 =>
  some r3

/-- lineal linealref08.isNumber -/
noncomputable def C112 (A : Ar) (x1 : Int) : Option (Bool) :=
  (C51 A 0 x1 9).bind fun r3 =>
  some r3

/-- lineal linealref08.isLine -/
noncomputable def C52 (A : Ar) (x1 : Int) (x2 : Int) (x3 : Int) (x4 : Int) (x5 : Int) : Option (Bool) :=
  bif (A.zeq x1 1) then
    ((
      (C111 A x2).bind fun r8 =>
      bif r8 then
        (C82 A x3).bind fun r11 =>
        bif r11 then
          some (A.zeq x4 0)
        else
          some false
      else
        some false : Option (Bool))).bind fun v13 =>
    some v13
  else
    bif (A.zeq x1 2) then
      ((
        (C82 A x2).bind fun r17 =>
        bif r17 then
          (C111 A x3).bind fun r20 =>
          bif r20 then
            some (A.zeq x4 0)
          else
            some false
        else
          some false : Option (Bool))).bind fun v22 =>
      some v22
    else
      bif (A.zeq x1 3) then
        ((
          (C82 A x2).bind fun r26 =>
          bif r26 then
            (C111 A x3).bind fun r29 =>
            bif r29 then
              (C111 A x4).bind fun r32 =>
              some r32
            else
              some false
          else
            some false : Option (Bool))).bind fun v33 =>
        some v33
      else
        bif (A.zeq x1 4) then
          ((
            (C111 A x2).bind fun r37 =>
            bif r37 then
              (C112 A x3).bind fun r40 =>
              bif r40 then
                some (A.zeq x4 0)
              else
                some false
            else
              some false : Option (Bool))).bind fun v42 =>
          some v42
        else
          bif (A.zeq x1 5) then
            ((
              (C111 A x2).bind fun r46 =>
              bif r46 then
                (C111 A x3).bind fun r49 =>
                bif r49 then
                  (C111 A x4).bind fun r52 =>
                  some r52
                else
                  some false
              else
                some false : Option (Bool))).bind fun v53 =>
            some v53
          else
            bif (A.zeq x1 6) then
              ((
                (C111 A x2).bind fun r57 =>
                bif r57 then
                  (C51 A 0 x3 (A.wrp .i64 (A.zsub x5 1))).bind fun r60 =>
                  bif r60 then
                    some (A.zeq x4 0)
                  else
                    some false
                else
                  some false : Option (Bool))).bind fun v62 =>
              some v62
            else
              bif (A.zeq x1 7) then
                ((
                  (C111 A x2).bind fun r66 =>
                  bif r66 then
                    bif (A.zeq x3 0) then
                      some (A.zeq x4 0)
                    else
                      some false
                  else
                    some false : Option (Bool))).bind fun v69 =>
                some v69
              else
                some false

noncomputable def C16L0 (A : Ar) (a47 : List D) : Int → Option ((Int) ⊕ ((Unit) ⊕ (Unit))) := fun v65 =>
  bif (A.zlt v65 (A.len a47)) then
    (gt A (cG (lc (cI .i64) (lc (cI .i64) (lc (cI .i64) (l1 (cI .i64)))))) a47 v65).bind fun (a67, a68, a69, a70) =>
    (C52 A a67 a68 a69 a70 (A.len a47)).bind fun r75 =>
    bif r75 then
      some (.inl (A.wrp .i64 (A.zadd v65 1)))
    else
      some (.inr (.inr ()))
  else
    some (.inr (.inl ()))

noncomputable def C16L1 (A : Ar) (x1 : List D) : Int → Option ((Int) ⊕ ((Unit) ⊕ (Unit))) := fun v45 =>
  bif (A.zlt v45 (A.len x1)) then
    (gt A (cL 4) x1 v45).bind fun a47 =>
    (C51 A 1 (A.len a47) 8).bind fun r52 =>
    bif r52 then
      (iter (C16L0 A a47) 0).bind (Sum.elim (fun _ =>
        (gt A (cG (lc (cI .i64) (lc (cI .i64) (lc (cI .i64) (l1 (cI .i64)))))) a47 (A.wrp .i64 (A.zsub (A.len a47) 1))).bind fun (a78, a79, a80, a81) =>
        bif (A.zeq a78 7) then
          some (.inl (A.wrp .i64 (A.zadd v45 1)))
        else
          some (.inr (.inr ()))) (fun _ =>
        some (.inr (.inr ()))))
    else
      some (.inr (.inr ()))
  else
    some (.inr (.inl ()))

/-- lineal linealref08.Valid -/
noncomputable def C16 (A : Ar) (x1 : List D) : Option (Bool) :=
  (C51 A 1 (A.len x1) 4).bind fun r3 =>
  bif r3 then
    (iter (C16L1 A x1) 0).bind (Sum.elim (fun _ =>
      some true) (fun _ =>
      some false))
  else
    some false

noncomputable def C43L0 (A : Ar) (x1 : List D) (a32 : List D) : Int → Option ((Int) ⊕ ((Unit) ⊕ (Unit))) := fun v45 =>
  bif (A.zlt v45 (A.len a32)) then
    (gt A (cI .i64) a32 v45).bind fun a47 =>
    (C51 A 0 a47 (A.wrp .i64 (A.zsub (A.len x1) 1))).bind fun r52 =>
    bif r52 then
      some (.inl (A.wrp .i64 (A.zadd v45 1)))
    else
      some (.inr (.inr ()))
  else
    some (.inr (.inl ()))

noncomputable def C43L1 (A : Ar) (x1 : List D) (x2 : List D) : Int → Option ((Int) ⊕ ((Unit) ⊕ (Unit))) := fun v30 =>
  bif (A.zlt v30 (A.len x2)) then
    (gt A (cL 1) x2 v30).bind fun a32 =>
    bif (A.zlt 3 (A.len a32)) then
      some (.inr (.inr ()))
    else
      (iter (C43L0 A x1 a32) 0).bind (Sum.elim (fun _ =>
        some (.inl (A.wrp .i64 (A.zadd v30 1)))) (fun _ =>
        some (.inr (.inr ()))))
  else
    some (.inr (.inl ()))

/-- lineal linealref08.IsUse -/
noncomputable def C43 (A : Ar) (x1 : List D) (x2 : List D) : Option (Bool) :=
  (C51 A 1 (A.len x2) 2).bind fun r4 =>
  bif r4 then
    (iter (C43L1 A x1 x2) 0).bind (Sum.elim (fun _ =>
      some true) (fun _ =>
      some false))
  else
    some false

noncomputable def C17L0 (A : Ar) (x1 : List D) (x2 : List D) : Int → Option ((Int) ⊕ ((Unit) ⊕ (Unit))) := fun v24 =>
  bif (A.zlt v24 (A.len x1)) then
    (gt A (cG (lc (cI .i64) (lc (cI .i64) (lc (cI .i64) (lc (cI .i64) (lc (cI .i64) (l1 (cI .i64)))))))) x1 v24).bind fun (a26, a27, a28, a29, a30, a31) =>
    (gt A (cG (lc (cI .i64) (lc (cI .i64) (lc (cI .i64) (lc (cI .i64) (lc (cI .i64) (l1 (cI .i64)))))))) x2 v24).bind fun (a35, a36, a37, a38, a39, a40) =>
    bif (A.deq [(.int .i64 a26), (.int .i64 a27), (.int .i64 a28), (.int .i64 a29), (.int .i64 a30), (.int .i64 a31)] [(.int .i64 a35), (.int .i64 a36), (.int .i64 a37), (.int .i64 a38), (.int .i64 a39), (.int .i64 a40)]) then
      some (.inl (A.wrp .i64 (A.zadd v24 1)))
    else
      some (.inr (.inr ()))
  else
    some (.inr (.inl ()))

/-- lineal linealref02.Same -/
noncomputable def C17 (A : Ar) (x1 : List D) (x2 : List D) : Option (Bool) :=
  bif (A.zeq (A.len x1) (A.len x2)) then
    (iter (C17L0 A x1 x2) 0).bind (Sum.elim (fun _ =>
      some true) (fun _ =>
      some false))
  else
    some false

/--  *lineal code.run .has -/
noncomputable def C70a (A : Ar) (x1 : List D) (x2 : List D) (x3 : Int) (x4 : Int) (x5 : Int) (x6 : Int) (x7 : Int) (x8 : Int) (x9 : Int) (x10 : Int) (x11 : Int) (x12 : Int) (x13 : Int) (x14 : Int) (x15 : Int) (x16 : Int) (x17 : Int) (x18 : Int) (x19 : Int) (x20 : Int) (x21 : List D) (x22 : List D) (x23 : Int) : Option (Bool) :=
  ((
    (C47 A 0 x23 (A.wrp .i64 (A.zsub (A.len x2) 1))).bind fun r25 =>
    bif r25 then
      bif (A.zeq x23 0) then
        (gt A (cL 1) x2 x23).bind fun a29 =>
        some (A.zlt x3 (A.len a29))
      else
        bif (A.zeq x23 1) then
          (gt A (cL 1) x2 x23).bind fun a36 =>
          some (A.zlt x10 (A.len a36))
        else
          none
    else
      some false : Option (Bool))).bind fun v41 =>
  some v41

noncomputable def C56L0 (A : Ar) (x1 : List D) (x2 : List D) (x3 : Int) (x4 : Int) (x5 : Int) (x6 : Int) (x7 : Int) (x8 : Int) (x9 : Int) (x10 : Int) (x11 : Int) (x12 : Int) (x13 : Int) (x14 : Int) (x15 : Int) (x16 : Int) (x17 : Int) (x18 : Int) (x19 : Int) (x20 : Int) (x21 : List D) (x22 : List D) : (List D × Int) → Option ((List D × Int) ⊕ (List D)) := fun (v33, v34) =>
  bif (A.zlt v34 (A.len x2)) then
    (C70a A x1 x2 x3 x4 x5 x6 x7 x8 x9 x10 x11 x12 x13 x14 x15 x16 x17 x18 x19 x20 x21 x22 v34).bind fun r37 =>
    ((
      bif r37 then
        (ap A v33 [(.int .i64 v34)]).bind fun l39 =>
        some l39
      else
        some v33 : Option (List D))).bind fun v43 =>
    some (.inl (v43, (A.wrp .i64 (A.zadd v34 1))))
  else
    some (.inr v33)

/--  *lineal code.run .left -/
noncomputable def C56 (A : Ar) (x1 : List D) (x2 : List D) (x3 : Int) (x4 : Int) (x5 : Int) (x6 : Int) (x7 : Int) (x8 : Int) (x9 : Int) (x10 : Int) (x11 : Int) (x12 : Int) (x13 : Int) (x14 : Int) (x15 : Int) (x16 : Int) (x17 : Int) (x18 : Int) (x19 : Int) (x20 : Int) (x21 : List D) (x22 : List D) : Option (List D) :=
  (iter (C56L0 A x1 x2 x3 x4 x5 x6 x7 x8 x9 x10 x11 x12 x13 x14 x15 x16 x17 x18 x19 x20 x21 x22) ([], 0)).bind (fun v45 =>
  some v45)

/-- lineal code.Left$1 -/
noncomputable def C55 (A : Ar) (x1 : List D) (x2 : List D) (x3 : Int) (x4 : Int) (x5 : Int) (x6 : Int) (x7 : Int) (x8 : Int) (x9 : Int) (x10 : Int) (x11 : Int) (x12 : Int) (x13 : Int) (x14 : Int) (x15 : Int) (x16 : Int) (x17 : Int) (x18 : Int) (x19 : Int) (x20 : Int) (x21 : List D) (x22 : List D) : Option (List D) :=
  (C56 A x1 x2 x3 x4 x5 x6 x7 x8 x9 x10 x11 x12 x13 x14 x15 x16 x17 x18 x19 x20 x21 x22).bind fun r24 =>
  some r24

/-- lineal code.behind -/
noncomputable def C44b (A : Ar) (x1 : List D) (x2 : List D) (x3 : List D) : Option (List D × Int) :=
  (C89 A x1 x2).bind fun r5 =>
  bif (A.zeq r5 0) then
    (C104 A x1 x2 x3 []).bind fun (r8, r9, r10, r11, r12, r13, r14, r15, r16, r17, r18, r19, r20, r21, r22, r23, r24, r25, r26, r27, r28, r29, r30) =>
    bif r30 then
      (C55 A r8 r9 r10 r11 r12 r13 r14 r15 r16 r17 r18 r19 r20 r21 r22 r23 r24 r25 r26 r27 r28 r29).bind fun r33 =>
      some (r33, 0)
    else
      some ([], 2)
  else
    some ([], r5)

/-- lineal code.Left -/
noncomputable def C20 (A : Ar) (x1 : List D) (x2 : List D) (x3 : List D) : Option (List D × Int) :=
  (C44b A x1 x2 x3).bind fun (r5, r6) =>
  some (r5, r6)

noncomputable def C113L0 (A : Ar) (x6 : Int) (a36 : List D) : Int → Option ((Int) ⊕ ((Unit) ⊕ (Unit))) := fun v50 =>
  bif (A.zlt v50 (A.len a36)) then
    (gt A (cI .i64) a36 v50).bind fun a52 =>
    ((
      bif (A.zlt a52 0) then
        some true
      else
        some (A.zle x6 a52) : Option (Bool))).bind fun v57 =>
    bif v57 then
      some (.inr (.inr ()))
    else
      some (.inl (A.wrp .i64 (A.zadd v50 1)))
  else
    some (.inr (.inl ()))

noncomputable def C113L1 (A : Ar) (x2 : Int) (x5 : List D) (x6 : Int) : Int → Option ((Int) ⊕ ((Unit) ⊕ (Unit))) := fun v34 =>
  bif (A.zlt v34 (A.len x5)) then
    (gt A (cL 1) x5 v34).bind fun a36 =>
    bif (A.zeq (A.len a36) x2) then
      (iter (C113L0 A x6 a36) 0).bind (Sum.elim (fun _ =>
        some (.inl (A.wrp .i64 (A.zadd v34 1)))) (fun _ =>
        some (.inr (.inr ()))))
    else
      some (.inr (.inr ()))
  else
    some (.inr (.inl ()))

/-- lineal linealref01.isTable -/
noncomputable def C113 (A : Ar) (x1 : Int) (x2 : Int) (x3 : List D) (x4 : List D) (x5 : List D) (x6 : Int) : Option (Bool) :=
  bif (A.zeq (A.len x5) x1) then
    (iter (C113L1 A x2 x5 x6) 0).bind (Sum.elim (fun _ =>
      some true) (fun _ =>
      some false))
  else
    some false

/-- lineal linealref01.Valid -/
noncomputable def C58 (A : Ar) (x1 : Int) (x2 : Int) (x3 : List D) (x4 : List D) : Option (Bool) :=
  ((
    bif (A.zle 1 x1) then
      bif (A.zle x1 8) then
        bif (A.zle 1 x2) then
          bif (A.zle x2 4) then
            (C113 A x1 x2 x3 x4 x3 x1).bind fun r10 =>
            bif r10 then
              (C113 A x1 x2 x3 x4 x4 6).bind fun r13 =>
              some r13
            else
              some false
          else
            some false
        else
          some false
      else
        some false
    else
      some false : Option (Bool))).bind fun v14 =>
  some v14

/-- lineal lineallaw08.IsCase -/
noncomputable def C23 (A : Ar) (x1 : Int) (x2 : Int) (x3 : List D) (x4 : List D) (x5 : List D) (x6 : List D) : Option (Bool) :=
  ((
    (C9 A x1 x2 x3 x4 x5 x6).bind fun r8 =>
    bif r8 then
      some false
    else
      (C16 A x5).bind fun r11 =>
      bif r11 then
        (C58 A x1 x2 x3 x4).bind fun r14 =>
        bif r14 then
          bif (A.zeq x2 (A.len x5)) then
            (C43 A x5 x6).bind fun r18 =>
            some r18
          else
            some false
        else
          some false
      else
        some false : Option (Bool))).bind fun v19 =>
  some v19

noncomputable def C24L0 (A : Ar) (x5 : List D) (x6 : List D) (x7 : List D) (x8 : Int) : (List D × Int) → Option ((List D × Int) ⊕ ((List D) ⊕ (List D × Bool × Bool))) := fun (v39, v40) =>
  bif (A.zlt v40 x8) then
    (C20 A x5 x6 v39).bind fun (r43, r44) =>
    bif (A.zeq r44 0) then
      bif (A.zeq (A.len r43) 0) then
        some (.inr (.inr (v39, true, true)))
      else
        (gc A (cI .i64) r43 0).bind fun a47 =>
        ((
          bif (A.zlt v40 (A.len x7)) then
            (gt A (cI .u8) x7 v40).bind fun a51 =>
            (nk (A.zeq (A.len r43) 0)).bind fun _ =>
            (gt A (cI .i64) r43 (A.rem (A.wrp .i64 a51) (A.len r43))).bind fun a57 =>
            some a57
          else
            some a47 : Option (Int))).bind fun v61 =>
        ((
          bif (A.zlt v61 0) then
            some true
          else
            some (A.zle (A.len x6) v61) : Option (Bool))).bind fun v64 =>
        bif v64 then
          some (.inr (.inr ([], false, false)))
        else
          (ap A v39 [(.int .i64 v61)]).bind fun l67 =>
          some (.inl (l67, (A.wrp .i64 (A.zadd v40 1))))
    else
      some (.inr (.inr ([], false, false)))
  else
    some (.inr (.inl v39))

/-- lineal lineallaw08.schedule -/
noncomputable def C24 (A : Ar) (x1 : Int) (x2 : Int) (x3 : List D) (x4 : List D) (x5 : List D) (x6 : List D) (x7 : List D) (x8 : Int) : Option (List D × Bool × Bool) :=
  (iter (C24L0 A x5 x6 x7 x8) ([], 0)).bind (Sum.elim (fun v71 =>
    (C20 A x5 x6 v71).bind fun (r77, r78) =>
    some (v71, (A.zeq (A.len r77) 0), (A.zeq r78 0))) (fun (v72, v73, v74) =>
    some (v72, v73, v74)))

/-- lineal history.between -/
noncomputable def C61 (A : Ar) (x1 : Int) (x2 : Int) (x3 : Int) : Option (Bool) :=
  ((
    bif (A.zle x1 x2) then
      some (A.zle x2 x3)
    else
      some false : Option (Bool))).bind fun v5 =>
  some v5

/-- lineal history.isCall -/
noncomputable def C139 (A : Ar) (x1 : Int) (x2 : Int) (x3 : Int) (x4 : Int) (x5 : Int) (x6 : Int) : Option (Bool) :=
  ((
    (C61 A 0 x1 3).bind fun r8 =>
    bif r8 then
      (C61 A 0 x2 1).bind fun r11 =>
      bif r11 then
        (C61 A 0 x3 3).bind fun r14 =>
        bif r14 then
          (C61 A 0 x4 9).bind fun r17 =>
          bif r17 then
            (C61 A 1 x5 100).bind fun r20 =>
            some r20
          else
            some false
        else
          some false
      else
        some false
    else
      some false : Option (Bool))).bind fun v21 =>
  bif (A.zeq x6 0) then
    ((
      bif v21 then
        some (A.zeq x4 0)
      else
        some false : Option (Bool))).bind fun v25 =>
    some v25
  else
    ((
      bif v21 then
        (C61 A 2 x6 100).bind fun r29 =>
        bif r29 then
          some (A.zlt x5 x6)
        else
          some false
      else
        some false : Option (Bool))).bind fun v31 =>
    some v31

/-- lineal history.before -/
noncomputable def C127 (A : Ar) (x1 : Int) (x2 : Int) (x3 : Int) (x4 : Int) (x5 : Int) (x6 : Int) (x7 : Int) (x8 : Int) (x9 : Int) (x10 : Int) (x11 : Int) (x12 : Int) : Option (Bool) :=
  ((
    bif (A.zlt 0 x6) then
      some (A.zlt x6 x11)
    else
      some false : Option (Bool))).bind fun v14 =>
  some v14

noncomputable def C114L0 (A : Ar) (a98 : Int) (a99 : Int) (a100 : Int) (a101 : Int) (a102 : Int) (a103 : Int) (l143 : List D) : Int → Option ((Int) ⊕ ((Unit) ⊕ (Unit))) := fun v168 =>
  bif (A.zlt v168 (A.len l143)) then
    (gt A (cG (lc (cI .i64) (lc (cI .i64) (lc (cI .i64) (lc (cI .i64) (lc (cI .i64) (l1 (cI .i64)))))))) l143 v168).bind fun (a170, a171, a172, a173, a174, a175) =>
    ((
      bif (A.zeq a98 a170) then
        (C127 A a98 a99 a100 a101 a102 a103 a170 a171 a172 a173 a174 a175).bind fun r181 =>
        bif r181 then
          some false
        else
          (C127 A a170 a171 a172 a173 a174 a175 a98 a99 a100 a101 a102 a103).bind fun r184 =>
          some (!r184)
      else
        some false : Option (Bool))).bind fun v185 =>
    bif v185 then
      some (.inr (.inr ()))
    else
      some (.inl (A.wrp .i64 (A.zadd v168 1)))
  else
    some (.inr (.inl ()))

noncomputable def C114L1 (A : Ar) (x1 : List D) : (Int × List D) → Option ((Int × List D) ⊕ ((List D) ⊕ (List D))) := fun (v95, v96) =>
  bif (A.zlt v95 (A.len x1)) then
    (gt A (cG (lc (cI .i64) (lc (cI .i64) (lc (cI .i64) (lc (cI .i64) (lc (cI .i64) (l1 (cI .i64)))))))) x1 v95).bind fun (a98, a99, a100, a101, a102, a103) =>
    ((
      (C139 A a98 a99 a100 a101 a102 a103).bind fun r108 =>
      bif r108 then
        (ck (A.zle 0 a102)).bind fun _ =>
        (ck (A.zlt a102 (Int.ofNat 101))).bind fun _ =>
        (gc A cB v96 (A.nat (A.zadd 0 (A.zmul a102 (Int.ofNat 1))))).bind fun a114 =>
        some a114
      else
        some true : Option (Bool))).bind fun v117 =>
    bif v117 then
      some (.inr (.inr v96))
    else
      (ck (A.zle 0 a102)).bind fun _ =>
      (ck (A.zlt a102 (Int.ofNat 101))).bind fun _ =>
      (A.lget v96 (A.nat (A.zadd 0 (A.zmul a102 (Int.ofNat 1))))).bind fun d124 =>
      jn (fun (v141 : List D) =>
        (sl A x1 0 v95).bind fun l143 =>
        (iter (C114L0 A a98 a99 a100 a101 a102 a103 l143) 0).bind (Sum.elim (fun _ =>
          some (.inl ((A.wrp .i64 (A.zadd v95 1)), v141))) (fun _ =>
          some (.inr (.inr v141))))) fun K142 =>
        bif (A.zlt 0 a103) then
          (ck (A.zle 0 a103)).bind fun _ =>
          (ck (A.zlt a103 (Int.ofNat 101))).bind fun _ =>
          (gc A cB (A.lset v96 (A.nat (A.zadd 0 (A.zmul a102 (Int.ofNat 1)))) (.bool true)) (A.nat (A.zadd 0 (A.zmul a103 (Int.ofNat 1))))).bind fun a131 =>
          bif a131 then
            some (.inr (.inr (A.lset v96 (A.nat (A.zadd 0 (A.zmul a102 (Int.ofNat 1)))) (.bool true))))
          else
            (ck (A.zle 0 a103)).bind fun _ =>
            (ck (A.zlt a103 (Int.ofNat 101))).bind fun _ =>
            (A.lget (A.lset v96 (A.nat (A.zadd 0 (A.zmul a102 (Int.ofNat 1)))) (.bool true)) (A.nat (A.zadd 0 (A.zmul a103 (Int.ofNat 1))))).bind fun d139 =>
            K142 (A.lset (A.lset v96 (A.nat (A.zadd 0 (A.zmul a102 (Int.ofNat 1)))) (.bool true)) (A.nat (A.zadd 0 (A.zmul a103 (Int.ofNat 1)))) (.bool true))
        else
          K142 (A.lset v96 (A.nat (A.zadd 0 (A.zmul a102 (Int.ofNat 1)))) (.bool true))
  else
    some (.inr (.inl v96))

/-- lineal history.Valid -/
noncomputable def C114 (A : Ar) (x1 : List D) : Option (Bool) :=
  bif (A.zlt 8 (A.len x1)) then
    some false
  else
    (iter (C114L1 A x1) (0, (A.rep (Int.ofNat 101) (.bool false)))).bind (Sum.elim (fun v189 =>
      some true) (fun v190 =>
      some false))

/-- lineal history.Until$1 -/
noncomputable def C60 (A : Ar) (x1 : Int) : Option (Bool) :=
  (C61 A 0 x1 100).bind fun r3 =>
  some r3

/-- lineal history.Until$2$1 -/
noncomputable def C64 (A : Ar) (x1 : Int) (x2 : Int) (x3 : Int) (x4 : Int) (x5 : Int) (x6 : Int) (x7 : Int) : Option (Bool) :=
  some (A.zle x5 x7)

noncomputable def C63L0 (A : Ar) (x1 : List D) (x2 : Int) : (List D × Int) → Option ((List D × Int) ⊕ (List D)) := fun (v22, v23) =>
  bif (A.zlt v23 (A.len x1)) then
    (gt A (cG (lc (cI .i64) (lc (cI .i64) (lc (cI .i64) (lc (cI .i64) (lc (cI .i64) (l1 (cI .i64)))))))) x1 v23).bind fun (a25, a26, a27, a28, a29, a30) =>
    (C64 A a25 a26 a27 a28 a29 a30 x2).bind fun r35 =>
    ((
      bif r35 then
        (ap A v22 [(.agg [(.int .i64 a25), (.int .i64 a26), (.int .i64 a27), (.int .i64 a28), (.int .i64 a29), (.int .i64 a30)])]).bind fun l37 =>
        some l37
      else
        some v22 : Option (List D))).bind fun v41 =>
    some (.inl (v41, (A.wrp .i64 (A.zadd v23 1))))
  else
    some (.inr v22)

/-- lineal history.picked -/
noncomputable def C63 (A : Ar) (x1 : List D) (x2 : Int) : Option (List D) :=
  (iter (C63L0 A x1 x2) ([], 0)).bind (fun v43 =>
  some v43)

noncomputable def C62L0 (A : Ar) (x2 : Int) (r4 : List D) : (Int × List D) → Option ((Int × List D) ⊕ (List D)) := fun (v31, v32) =>
  bif (A.zlt v31 (A.len r4)) then
    (ck (A.zle 0 v31)).bind fun _ =>
    (ck (A.zlt v31 (A.len r4))).bind fun _ =>
    (gc A (cG (lc (cI .i64) (lc (cI .i64) (lc (cI .i64) (lc (cI .i64) (lc (cI .i64) (l1 (cI .i64)))))))) v32 (A.nat (A.zadd 0 v31))).bind fun (a38, a39, a40, a41, a42, a43) =>
    ((
      bif (A.zlt x2 a43) then
        (gc A (cG (lc (cI .i64) (lc (cI .i64) (lc (cI .i64) (lc (cI .i64) (lc (cI .i64) (l1 (cI .i64)))))))) (A.lset v32 (A.nat (A.zadd 0 v31)) (.agg [(.int .i64 a38), (.int .i64 a39), (.int .i64 a40), (.int .i64 a41), (.int .i64 a42), (.int .i64 0)])) (A.nat (A.zadd 0 v31))).bind fun (a47, a48, a49, a50, a51, a52) =>
        some (A.lset (A.lset v32 (A.nat (A.zadd 0 v31)) (.agg [(.int .i64 a38), (.int .i64 a39), (.int .i64 a40), (.int .i64 a41), (.int .i64 a42), (.int .i64 0)])) (A.nat (A.zadd 0 v31)) (.agg [(.int .i64 a47), (.int .i64 a48), (.int .i64 a49), (.int .i64 0), (.int .i64 a51), (.int .i64 a52)]))
      else
        some v32 : Option (List D))).bind fun v55 =>
    some (.inl ((A.wrp .i64 (A.zadd v31 1)), v55))
  else
    some (.inr v32)

noncomputable def C62L1 (A : Ar) (x2 : Int) (r4 : List D) : Int → Option ((Int) ⊕ (Unit)) := fun v74 =>
  bif (A.zlt v74 (A.len r4)) then
    (gt A (cG (lc (cI .i64) (lc (cI .i64) (lc (cI .i64) (lc (cI .i64) (lc (cI .i64) (l1 (cI .i64)))))))) r4 v74).bind fun (a76, a77, a78, a79, a80, a81) =>
    bif (A.zlt x2 a81) then
      none
    else
      some (.inl (A.wrp .i64 (A.zadd v74 1)))
  else
    some (.inr ())

/-- lineal history.Until$2 -/
noncomputable def C62 (A : Ar) (x1 : List D) (x2 : Int) : Option (List D) :=
  (C63 A x1 x2).bind fun r4 =>
  bif (A.zlt 0 (A.len r4)) then
    (ck (scalars r4)).bind fun _ =>
    (iter (C62L0 A x2 r4) (0, r4)).bind (fun v57 =>
    (fz A v57 0 (A.len r4)).bind fun l59 =>
    some l59)
  else
    (iter (C62L1 A x2 r4) 0).bind (fun _ =>
    some r4)

/-- lineal history.told   lineal api.Call  -/
noncomputable def C59 (A : Ar) (x1 : List D) (x2 : Int) (x3 : List D) (x4 : Int) : Option (List D × Int) :=
  (C114 A x1).bind fun r6 =>
  bif r6 then
    (C60 A x2).bind fun r9 =>
    bif r9 then
      (C62 A x3 x4).bind fun r12 =>
      some (r12, 0)
    else
      some ([], 2)
  else
    some ([], 20)

/-- lineal history.Until -/
noncomputable def C25 (A : Ar) (x1 : List D) (x2 : Int) : Option (List D × Int) :=
  (C59 A x1 x2 x1 x2).bind fun (r4, r5) =>
  some (r4, r5)

/-- lineal history.By$1 -/
noncomputable def C65 (A : Ar) (x1 : Int) : Option (Bool) :=
  (C61 A 0 x1 3).bind fun r3 =>
  some r3

/-- lineal history.By$2$1 -/
noncomputable def C67 (A : Ar) (x1 : Int) (x2 : Int) (x3 : Int) (x4 : Int) (x5 : Int) (x6 : Int) (x7 : Int) : Option (Bool) :=
  some (A.zeq x1 x7)

noncomputable def C63aL0 (A : Ar) (x1 : List D) (x2 : Int) : (List D × Int) → Option ((List D × Int) ⊕ (List D)) := fun (v22, v23) =>
  bif (A.zlt v23 (A.len x1)) then
    (gt A (cG (lc (cI .i64) (lc (cI .i64) (lc (cI .i64) (lc (cI .i64) (lc (cI .i64) (l1 (cI .i64)))))))) x1 v23).bind fun (a25, a26, a27, a28, a29, a30) =>
    (C67 A a25 a26 a27 a28 a29 a30 x2).bind fun r35 =>
    ((
      bif r35 then
        (ap A v22 [(.agg [(.int .i64 a25), (.int .i64 a26), (.int .i64 a27), (.int .i64 a28), (.int .i64 a29), (.int .i64 a30)])]).bind fun l37 =>
        some l37
      else
        some v22 : Option (List D))).bind fun v41 =>
    some (.inl (v41, (A.wrp .i64 (A.zadd v23 1))))
  else
    some (.inr v22)

/-- lineal history.picked -/
noncomputable def C63a (A : Ar) (x1 : List D) (x2 : Int) : Option (List D) :=
  (iter (C63aL0 A x1 x2) ([], 0)).bind (fun v43 =>
  some v43)

/-- lineal history.By$2 -/
noncomputable def C66 (A : Ar) (x1 : List D) (x2 : Int) : Option (List D) :=
  (C63a A x1 x2).bind fun r4 =>
  some r4

/-- lineal history.told   lineal api.Call  -/
noncomputable def C59a (A : Ar) (x1 : List D) (x2 : Int) (x3 : List D) (x4 : Int) : Option (List D × Int) :=
  (C114 A x1).bind fun r6 =>
  bif r6 then
    (C65 A x2).bind fun r9 =>
    bif r9 then
      (C66 A x3 x4).bind fun r12 =>
      some (r12, 0)
    else
      some ([], 2)
  else
    some ([], 20)

/-- lineal history.By -/
noncomputable def C26 (A : Ar) (x1 : List D) (x2 : Int) : Option (List D × Int) :=
  (C59a A x1 x2 x1 x2).bind fun (r4, r5) =>
  some (r4, r5)

noncomputable def C4L0 (A : Ar) (x6 : List D) (v117 : Int) (r120 : List D) : (Bool × Int) → Option ((Bool × Int) ⊕ ((Bool) ⊕ (Unit))) := fun (v158, v159) =>
  bif (A.zlt v159 (A.len r120)) then
    ((
      (gt A (cG (lc (cI .i64) (lc (cI .i64) (lc (cI .i64) (lc (cI .i64) (lc (cI .i64) (l1 (cI .i64)))))))) r120 v159).bind fun (a161, a162, a163, a164, a165, a166) =>
      (gt A (cL 1) x6 v117).bind fun a170 =>
      (gt A (cI .i64) a170 v159).bind fun a174 =>
      bif (A.zeq a163 a174) then
        bif (A.zeq a166 0) then
          bif v158 then
            some (true, true)
          else
            some (false, (!(A.zeq v159 (A.wrp .i64 (A.zsub (A.len r120) 1)))))
        else
          some (v158, false)
      else
        some (v158, true) : Option (Bool × Bool))).bind fun (v181, v182) =>
    bif v182 then
      some (.inr (.inr ()))
    else
      some (.inl (v181, (A.wrp .i64 (A.zadd v159 1))))
  else
    some (.inr (.inl v158))

noncomputable def C4L1 (A : Ar) (x6 : List D) (r23 : List D) : (Bool × Int) → Option ((Bool × Int) ⊕ ((Unit) ⊕ (Unit))) := fun (v116, v117) =>
  bif (A.zlt v117 (A.len x6)) then
    (C26 A r23 v117).bind fun (r120, r121) =>
    ((
      bif (A.zeq r121 0) then
        (gt A (cL 1) x6 v117).bind fun a123 =>
        bif (A.zlt (A.len a123) (A.len r120)) then
          some (v116, true)
        else
          bif v116 then
            some (true, (!(A.zeq (A.len r120) (A.len a123))))
          else
            some (false, false)
      else
        some (v116, true) : Option (Bool × Bool))).bind fun (v129, v130) =>
    bif v130 then
      some (.inr (.inr ()))
    else
      (iter (C4L0 A x6 v117 r120) (v129, 0)).bind (Sum.elim (fun v185 =>
        some (.inl (v185, (A.wrp .i64 (A.zadd v117 1))))) (fun _ =>
        some (.inr (.inr ()))))
  else
    some (.inr (.inl ()))

/-- lineal lineallaw08.CodeBegins -/
noncomputable def C4 (A : Ar) (x1 : Int) (x2 : Int) (x3 : List D) (x4 : List D) (x5 : List D) (x6 : List D) (x7 : List D) (x8 : Int) : Option (Bool) :=
  ((
    (C23 A x1 x2 x3 x4 x5 x6).bind fun r10 =>
    bif r10 then
      some (A.zlt 60 (A.len x7))
    else
      some true : Option (Bool))).bind fun v12 =>
  bif v12 then
    (C10 A).bind fun r16 =>
    some r16
  else
    (C24 A x1 x2 x3 x4 x5 x6 x7 12).bind fun (r18, r19, r20) =>
    bif r20 then
      (C13 A x5 x6 r18).bind fun (r23, r24) =>
      (nk (A.zeq (A.wrp .i64 (A.zadd (A.len r18) 1)) 0)).bind fun _ =>
      (sl A r18 0 (A.rem (A.wrp .i64 x8) (A.wrp .i64 (A.zadd (A.len r18) 1)))).bind fun l27 =>
      (C13 A x5 x6 l27).bind fun (r34, r35) =>
      (C25 A r23 (A.wrp .i64 (A.zmul 2 (A.rem (A.wrp .i64 x8) (A.wrp .i64 (A.zadd (A.len r18) 1)))))).bind fun (r37, r38) =>
      ((
        bif (A.zeq r24 0) then
          bif (A.zeq r35 0) then
            bif (A.zeq r38 0) then
              (C17 A r34 r37).bind fun r43 =>
              some (!r43)
            else
              some true
          else
            some true
        else
          some true : Option (Bool))).bind fun v44 =>
      bif v44 then
        some false
      else
        (iter (C4L1 A x6 r23) (r19, 0)).bind (Sum.elim (fun _ =>
          (C10 A).bind fun r189 =>
          some r189) (fun _ =>
          some false))
    else
      some false
end Go.Am
