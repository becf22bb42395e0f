/- Own text: Genp0. -/
import Derived.Test.YtkjeamngjnfpkaaAmLaw
set_option maxRecDepth 100000
set_option maxHeartbeats 2000000
set_option linter.unusedVariables false
set_option linter.unusedSimpArgs false
namespace Go.Am
open Go
noncomputable def C41L0 (A : Ar) (a46 : List D) : Int → Option ((Int) ⊕ ((Unit) ⊕ (Unit))) := fun v61 =>
  bif (A.zlt v61 (A.len a46)) then
    (gt A (cL 1) a46 v61).bind fun a63 =>
    bif (A.zlt 20 (A.len a63)) then
      some (.inr (.inr ()))
    else
      some (.inl (A.wrp .i64 (A.zadd v61 1)))
  else
    some (.inr (.inl ()))

noncomputable def C41L1 (A : Ar) (a47 : List D) : Int → Option ((Int) ⊕ ((Unit) ⊕ (Unit))) := fun v75 =>
  bif (A.zlt v75 (A.len a47)) then
    (gt A (cL 1) a47 v75).bind fun a77 =>
    bif (A.zlt 20 (A.len a77)) then
      some (.inr (.inr ()))
    else
      some (.inl (A.wrp .i64 (A.zadd v75 1)))
  else
    some (.inr (.inl ()))

noncomputable def C41L2 (A : Ar) (x1 : List D) : Int → Option ((Int) ⊕ ((Unit) ⊕ (Unit))) := fun v42 =>
  bif (A.zlt v42 (A.len x1)) then
    (gt A (cG (lc (cI .i64) (lc (cI .i64) (lc (cL 1) (l1 (cL 1)))))) x1 v42).bind fun (a44, a45, a46, a47) =>
    ((
      bif (A.zlt 20 (A.len a46)) then
        some true
      else
        some (A.zlt 20 (A.len a47)) : Option (Bool))).bind fun v52 =>
    bif v52 then
      some (.inr (.inr ()))
    else
      (iter (C41L0 A a46) 0).bind (Sum.elim (fun _ =>
        (iter (C41L1 A a47) 0).bind (Sum.elim (fun _ =>
          some (.inl (A.wrp .i64 (A.zadd v42 1)))) (fun _ =>
          some (.inr (.inr ()))))) (fun _ =>
        some (.inr (.inr ()))))
  else
    some (.inr (.inl ()))

/-- lineal lineallaw02.Large -/
noncomputable def C41 (A : Ar) (x1 : List D) : Option (Bool) :=
  (iter (C41L2 A x1) 0).bind (Sum.elim (fun _ =>
    some (A.zlt 5 (A.len x1))) (fun _ =>
    some true))

noncomputable def C9L0 (A : Ar) (x5 : List D) : Int → Option ((Int) ⊕ ((Unit) ⊕ (Unit))) := fun v13 =>
  bif (A.zlt v13 (A.len x5)) then
    (gt A (cL 4) x5 v13).bind fun a15 =>
    bif (A.zlt 30 (A.len a15)) then
      some (.inr (.inr ()))
    else
      some (.inl (A.wrp .i64 (A.zadd v13 1)))
  else
    some (.inr (.inl ()))

noncomputable def C9L1 (A : Ar) (x6 : List D) : Int → Option ((Int) ⊕ ((Unit) ⊕ (Unit))) := fun v27 =>
  bif (A.zlt v27 (A.len x6)) then
    (gt A (cL 1) x6 v27).bind fun a29 =>
    bif (A.zlt 20 (A.len a29)) then
      some (.inr (.inr ()))
    else
      some (.inl (A.wrp .i64 (A.zadd v27 1)))
  else
    some (.inr (.inl ()))

/-- lineal lineallaw08.Large -/
noncomputable def C9 (A : Ar) (x1 : Int) (x2 : Int) (x3 : List D) (x4 : List D) (x5 : List D) (x6 : List D) : Option (Bool) :=
  (iter (C9L0 A x5) 0).bind (Sum.elim (fun _ =>
    (iter (C9L1 A x6) 0).bind (Sum.elim (fun _ =>
      ((
        (C41 A [(.agg [(.int .i64 x1), (.int .i64 x2), (.list 1 x3), (.list 1 x4)])]).bind fun r36 =>
        bif r36 then
          some true
        else
          bif (A.zlt 10 (A.len x5)) then
            some true
          else
            some (A.zlt 10 (A.len x6)) : Option (Bool))).bind fun v39 =>
      some v39) (fun _ =>
      some true))) (fun _ =>
    some true))

/-- lineal code.between -/
noncomputable def C47 (A : Ar) (x1 : Int) (x2 : Int) (x3 : Int) : Option (Bool) :=
  ((
    bif (A.zle x1 x2) then
      some (A.zle x2 x3)
    else
      some false : Option (Bool))).bind fun v5 =>
  some v5

/-- lineal code.isRegister$1 -/
noncomputable def C163 (A : Ar) (x1 : Int) : Option (Bool) :=
  (C47 A 0 x1 3).bind fun r3 =>
  some (!r3)

noncomputable def C162L0 (A : Ar) (x1 : List D) : Int → Option ((Int) ⊕ ((Unit) ⊕ (Int))) := fun v10 =>
  bif (A.zlt v10 (A.len x1)) then
    (gt A (cI .i64) x1 v10).bind fun a12 =>
    (C163 A a12).bind fun r17 =>
    bif r17 then
      some (.inr (.inr v10))
    else
      some (.inl (A.wrp .i64 (A.zadd v10 1)))
  else
    some (.inr (.inl ()))

/-- slices.IndexFunc   int int  -/
noncomputable def C162 (A : Ar) (x1 : List D) : Option (Int) :=
  (iter (C162L0 A x1) 0).bind (Sum.elim (fun _ =>
    some (-1)) (fun v19 =>
    some v19))

/-- slices.ContainsFunc   int int  -/
noncomputable def C135 (A : Ar) (x1 : List D) : Option (Bool) :=
  (C162 A x1).bind fun r3 =>
  some (A.zle 0 r3)

/-- lineal code.isRegister -/
noncomputable def C138 (A : Ar) (x1 : List D) : Option (Bool) :=
  (C135 A x1).bind fun r3 =>
  some (!r3)

/-- lineal code.isCell -/
noncomputable def C79 (A : Ar) (x1 : Int) : Option (Bool) :=
  (C47 A 0 x1 2).bind fun r3 =>
  some r3

/-- lineal code.isLine -/
noncomputable def C110 (A : Ar) (x1 : Int) (x2 : Int) (x3 : Int) (x4 : Int) (x5 : Int) : Option (Bool) :=
  bif (A.zeq x1 1) then
    ((
      (C138 A [(.int .i64 x2)]).bind fun r8 =>
      bif r8 then
        (C79 A x3).bind fun r11 =>
        bif r11 then
          some (A.zeq x4 0)
        else
          some false
      else
        some false : Option (Bool))).bind fun v13 =>
    some v13
  else
    bif (A.zeq x1 2) then
      ((
        (C79 A x2).bind fun r17 =>
        bif r17 then
          (C138 A [(.int .i64 x3)]).bind fun r20 =>
          bif r20 then
            some (A.zeq x4 0)
          else
            some false
        else
          some false : Option (Bool))).bind fun v22 =>
      some v22
    else
      bif (A.zeq x1 3) then
        ((
          (C79 A x2).bind fun r26 =>
          bif r26 then
            (C138 A [(.int .i64 x3), (.int .i64 x4)]).bind fun r29 =>
            some r29
          else
            some false : Option (Bool))).bind fun v30 =>
        some v30
      else
        bif (A.zeq x1 4) then
          ((
            (C138 A [(.int .i64 x2)]).bind fun r34 =>
            bif r34 then
              (C47 A 0 x3 9).bind fun r37 =>
              bif r37 then
                some (A.zeq x4 0)
              else
                some false
            else
              some false : Option (Bool))).bind fun v39 =>
          some v39
        else
          bif (A.zeq x1 5) then
            (C138 A [(.int .i64 x2), (.int .i64 x3), (.int .i64 x4)]).bind fun r43 =>
            some r43
          else
            bif (A.zeq x1 6) then
              ((
                (C138 A [(.int .i64 x2)]).bind fun r46 =>
                bif r46 then
                  (C47 A 0 x3 (A.wrp .i64 (A.zsub x5 1))).bind fun r49 =>
                  bif r49 then
                    some (A.zeq x4 0)
                  else
                    some false
                else
                  some false : Option (Bool))).bind fun v51 =>
              some v51
            else
              bif (A.zeq x1 7) then
                ((
                  (C138 A [(.int .i64 x2)]).bind fun r55 =>
                  bif r55 then
                    bif (A.zeq x3 0) then
                      some (A.zeq x4 0)
                    else
                      some false
                  else
                    some false : Option (Bool))).bind fun v58 =>
                some v58
              else
                some false

/-- lineal code.isCall$1 -/
noncomputable def C109 (A : Ar) (x1 : Int) (x2 : Int) (x3 : Int) (x4 : Int) (x5 : List D) : Option (Bool) :=
  (C110 A x1 x2 x3 x4 (A.len x5)).bind fun r7 =>
  some (!r7)

noncomputable def C137L0 (A : Ar) (x1 : List D) (x2 : List D) : Int → Option ((Int) ⊕ ((Unit) ⊕ (Int))) := fun v14 =>
  bif (A.zlt v14 (A.len x1)) then
    (gt A (cG (lc (cI .i64) (lc (cI .i64) (lc (cI .i64) (l1 (cI .i64)))))) x1 v14).bind fun (a16, a17, a18, a19) =>
    (C109 A a16 a17 a18 a19 x2).bind fun r24 =>
    bif r24 then
      some (.inr (.inr v14))
    else
      some (.inl (A.wrp .i64 (A.zadd v14 1)))
  else
    some (.inr (.inl ()))

/-- slices.IndexFunc   lineal api.Line lineal api.Line  -/
noncomputable def C137 (A : Ar) (x1 : List D) (x2 : List D) : Option (Int) :=
  (iter (C137L0 A x1 x2) 0).bind (Sum.elim (fun _ =>
    some (-1)) (fun v26 =>
    some v26))

/-- slices.ContainsFunc   lineal api.Line lineal api.Line  -/
noncomputable def C108 (A : Ar) (x1 : List D) (x2 : List D) : Option (Bool) :=
  (C137 A x1 x2).bind fun r4 =>
  some (A.zle 0 r4)

/-- lineal code.isCall -/
noncomputable def C50 (A : Ar) (x1 : List D) : Option (Bool) :=
  ((
    (C47 A 1 (A.len x1) 8).bind fun r3 =>
    bif r3 then
      (C108 A x1 x1).bind fun r6 =>
      bif r6 then
        some false
      else
        (gt A (cG (lc (cI .i64) (lc (cI .i64) (lc (cI .i64) (l1 (cI .i64)))))) x1 (A.wrp .i64 (A.zsub (A.len x1) 1))).bind fun (a8, a9, a10, a11) =>
        some (A.zeq a8 7)
    else
      some false : Option (Bool))).bind fun v15 =>
  some v15

/-- lineal code.Valid$1 -/
noncomputable def C49 (A : Ar) (x1 : List D) : Option (Bool) :=
  (C50 A x1).bind fun r3 =>
  some (!r3)

noncomputable def C107L0 (A : Ar) (x1 : List D) : Int → Option ((Int) ⊕ ((Unit) ⊕ (Int))) := fun v10 =>
  bif (A.zlt v10 (A.len x1)) then
    (gt A (cL 4) x1 v10).bind fun a12 =>
    (C49 A a12).bind fun r17 =>
    bif r17 then
      some (.inr (.inr v10))
    else
      some (.inl (A.wrp .i64 (A.zadd v10 1)))
  else
    some (.inr (.inl ()))

/-- slices.IndexFunc     lineal api.Line   lineal api.Line  -/
noncomputable def C107 (A : Ar) (x1 : List D) : Option (Int) :=
  (iter (C107L0 A x1) 0).bind (Sum.elim (fun _ =>
    some (-1)) (fun v19 =>
    some v19))

/-- slices.ContainsFunc     lineal api.Line   lineal api.Line  -/
noncomputable def C48 (A : Ar) (x1 : List D) : Option (Bool) :=
  (C107 A x1).bind fun r3 =>
  some (A.zle 0 r3)

/-- lineal code.Valid -/
noncomputable def C15 (A : Ar) (x1 : List D) : Option (Bool) :=
  ((
    (C47 A 1 (A.len x1) 4).bind fun r3 =>
    bif r3 then
      (C48 A x1).bind fun r6 =>
      some (!r6)
    else
      some false : Option (Bool))).bind fun v7 =>
  some v7

/-- lineal code.isWord$1 -/
noncomputable def C136 (A : Ar) (x1 : Int) (x2 : List D) : Option (Bool) :=
  (C47 A 0 x1 (A.wrp .i64 (A.zsub (A.len x2) 1))).bind fun r4 =>
  some (!r4)

noncomputable def C162aL0 (A : Ar) (x1 : List D) (x2 : List D) : Int → Option ((Int) ⊕ ((Unit) ⊕ (Int))) := fun v11 =>
  bif (A.zlt v11 (A.len x1)) then
    (gt A (cI .i64) x1 v11).bind fun a13 =>
    (C136 A a13 x2).bind fun r18 =>
    bif r18 then
      some (.inr (.inr v11))
    else
      some (.inl (A.wrp .i64 (A.zadd v11 1)))
  else
    some (.inr (.inl ()))

/-- slices.IndexFunc   int int  -/
noncomputable def C162a (A : Ar) (x1 : List D) (x2 : List D) : Option (Int) :=
  (iter (C162aL0 A x1 x2) 0).bind (Sum.elim (fun _ =>
    some (-1)) (fun v20 =>
    some v20))

/-- slices.ContainsFunc   int int  -/
noncomputable def C135a (A : Ar) (x1 : List D) (x2 : List D) : Option (Bool) :=
  (C162a A x1 x2).bind fun r4 =>
  some (A.zle 0 r4)

/-- lineal code.isWord -/
noncomputable def C103 (A : Ar) (x1 : List D) (x2 : List D) : Option (Bool) :=
  ((
    bif (A.zle (A.len x2) 3) then
      (C135a A x2 x1).bind fun r5 =>
      some (!r5)
    else
      some false : Option (Bool))).bind fun v6 =>
  some v6

/-- lineal code.isUse$1 -/
noncomputable def C102 (A : Ar) (x1 : List D) (x2 : List D) : Option (Bool) :=
  (C103 A x2 x1).bind fun r4 =>
  some (!r4)

noncomputable def C134L0 (A : Ar) (x1 : List D) (x2 : List D) : Int → Option ((Int) ⊕ ((Unit) ⊕ (Int))) := fun v11 =>
  bif (A.zlt v11 (A.len x1)) then
    (gt A (cL 1) x1 v11).bind fun a13 =>
    (C102 A a13 x2).bind fun r18 =>
    bif r18 then
      some (.inr (.inr v11))
    else
      some (.inl (A.wrp .i64 (A.zadd v11 1)))
  else
    some (.inr (.inl ()))

/-- slices.IndexFunc     int   int  -/
noncomputable def C134 (A : Ar) (x1 : List D) (x2 : List D) : Option (Int) :=
  (iter (C134L0 A x1 x2) 0).bind (Sum.elim (fun _ =>
    some (-1)) (fun v20 =>
    some v20))

/-- slices.ContainsFunc     int   int  -/
noncomputable def C101 (A : Ar) (x1 : List D) (x2 : List D) : Option (Bool) :=
  (C134 A x1 x2).bind fun r4 =>
  some (A.zle 0 r4)

/-- lineal code.isUse -/
noncomputable def C42 (A : Ar) (x1 : List D) (x2 : List D) : Option (Bool) :=
  ((
    (C47 A 1 (A.len x2) 2).bind fun r4 =>
    bif r4 then
      (C101 A x2 x1).bind fun r7 =>
      some (!r7)
    else
      some false : Option (Bool))).bind fun v8 =>
  some v8

/-- lineal code.checked -/
noncomputable def C89 (A : Ar) (x1 : List D) (x2 : List D) : Option (Int) :=
  (C15 A x1).bind fun r4 =>
  bif r4 then
    (C42 A x1 x2).bind fun r7 =>
    bif r7 then
      some 0
    else
      some 81
  else
    some 80

/-- lineal code.newRun -/
noncomputable def C69 (A : Ar) (x1 : List D) (x2 : List D) : Option (List D × List D) :=
  some (x1, x2)

/--  *lineal code.run .has -/
noncomputable def C70 (A : Ar) (x1 : Int) (x2 : List D) (x3 : List D) (x4 : Int) (x5 : Int) (x6 : Int) (x7 : Int) (x8 : Int) (x9 : Int) (x10 : Int) (x11 : Int) (x12 : Int) (x13 : Int) (x14 : Int) (x15 : Int) (x16 : Int) (x17 : Int) (x18 : Int) (x19 : Int) (x20 : Int) (x21 : Int) (x22 : List D) (x23 : List D) : Option (Bool) :=
  ((
    (C47 A 0 x1 (A.wrp .i64 (A.zsub (A.len x3) 1))).bind fun r25 =>
    bif r25 then
      bif (A.zeq x1 0) then
        (gt A (cL 1) x3 x1).bind fun a29 =>
        some (A.zlt x4 (A.len a29))
      else
        bif (A.zeq x1 1) then
          (gt A (cL 1) x3 x1).bind fun a36 =>
          some (A.zlt x11 (A.len a36))
        else
          none
    else
      some false : Option (Bool))).bind fun v41 =>
  some v41

/--  *lineal code.run .begun$1 -/
noncomputable def C143 (A : Ar) (x1 : Int) (x2 : Int) (x3 : Int) (x4 : Int) (x5 : Int) (x6 : Int) (x7 : Int) : Option (Bool) :=
  ((
    bif (A.zeq x1 x7) then
      some (A.zeq x6 0)
    else
      some false : Option (Bool))).bind fun v9 =>
  some v9

noncomputable def C166L0 (A : Ar) (x1 : Int) (x22 : List D) : Int → Option ((Int) ⊕ ((Unit) ⊕ (Int))) := fun v40 =>
  bif (A.zlt v40 (A.len x22)) then
    (ck (A.zle 0 v40)).bind fun _ =>
    (ck (A.zlt v40 (A.len x22))).bind fun _ =>
    (gc A (cG (lc (cI .i64) (lc (cI .i64) (lc (cI .i64) (lc (cI .i64) (lc (cI .i64) (l1 (cI .i64)))))))) x22 (A.nat v40)).bind fun (a46, a47, a48, a49, a50, a51) =>
    (C143 A a46 a47 a48 a49 a50 a51 x1).bind fun r55 =>
    bif r55 then
      some (.inr (.inr v40))
    else
      some (.inl (A.wrp .i64 (A.zadd v40 1)))
  else
    some (.inr (.inl ()))

/-- slices.IndexFunc   lineal api.Call lineal api.Call  -/
noncomputable def C166 (A : Ar) (x1 : Int) (x2 : List D) (x3 : List D) (x4 : Int) (x5 : Int) (x6 : Int) (x7 : Int) (x8 : Int) (x9 : Int) (x10 : Int) (x11 : Int) (x12 : Int) (x13 : Int) (x14 : Int) (x15 : Int) (x16 : Int) (x17 : Int) (x18 : Int) (x19 : Int) (x20 : Int) (x21 : Int) (x22 : List D) (x23 : List D) : Option (Int) :=
  (iter (C166L0 A x1 x22) 0).bind (Sum.elim (fun _ =>
    some (-1)) (fun v57 =>
    some v57))

/-- slices.ContainsFunc   lineal api.Call lineal api.Call  -/
noncomputable def C142 (A : Ar) (x1 : Int) (x2 : List D) (x3 : List D) (x4 : Int) (x5 : Int) (x6 : Int) (x7 : Int) (x8 : Int) (x9 : Int) (x10 : Int) (x11 : Int) (x12 : Int) (x13 : Int) (x14 : Int) (x15 : Int) (x16 : Int) (x17 : Int) (x18 : Int) (x19 : Int) (x20 : Int) (x21 : Int) (x22 : List D) (x23 : List D) : Option (Bool) :=
  (C166 A x1 x2 x3 x4 x5 x6 x7 x8 x9 x10 x11 x12 x13 x14 x15 x16 x17 x18 x19 x20 x21 x22 x23).bind fun r25 =>
  some (A.zle 0 r25)

/--  *lineal code.run .begun -/
noncomputable def C116 (A : Ar) (x1 : Int) (x2 : List D) (x3 : List D) (x4 : Int) (x5 : Int) (x6 : Int) (x7 : Int) (x8 : Int) (x9 : Int) (x10 : Int) (x11 : Int) (x12 : Int) (x13 : Int) (x14 : Int) (x15 : Int) (x16 : Int) (x17 : Int) (x18 : Int) (x19 : Int) (x20 : Int) (x21 : Int) (x22 : List D) (x23 : List D) : Option (Bool) :=
  (C142 A x1 x2 x3 x4 x5 x6 x7 x8 x9 x10 x11 x12 x13 x14 x15 x16 x17 x18 x19 x20 x21 x22 x23).bind fun r25 =>
  some r25

/-- lineal code.start -/
noncomputable def C117 (A : Ar) : Option (Unit) :=
  some ()

/--  *lineal code.run .swap -/
noncomputable def C118 (A : Ar) (x1 : Int) (x2 : Int) (x3 : Int) (x4 : Int) (x5 : List D) (x6 : List D) (x7 : Int) (x8 : Int) (x9 : Int) (x10 : Int) (x11 : Int) (x12 : Int) (x13 : Int) (x14 : Int) (x15 : Int) (x16 : Int) (x17 : Int) (x18 : Int) (x19 : Int) (x20 : Int) (x21 : Int) (x22 : Int) (x23 : Int) (x24 : Int) (x25 : List D) (x26 : List D) : Option (Int × Int × Int × Int) :=
  (ck (A.zle 0 x2)).bind fun _ =>
  (ck (A.zlt x2 (Int.ofNat 3))).bind fun _ =>
  (gc A (cI .i64) [(.int .i64 x21), (.int .i64 x22), (.int .i64 x23)] (A.nat x2)).bind fun a31 =>
  (ck (A.zle 0 x3)).bind fun _ =>
  (ck (A.zlt x3 (Int.ofNat 4))).bind fun _ =>
  (gc A (cI .i64) [(.int .i64 x9), (.int .i64 x10), (.int .i64 x11), (.int .i64 x12)] (A.nat x3)).bind fun a38 =>
  bif (A.zeq a31 a38) then
    (ck (A.zle 0 x4)).bind fun _ =>
    (ck (A.zlt x4 (Int.ofNat 4))).bind fun _ =>
    (gc A (cI .i64) [(.int .i64 x9), (.int .i64 x10), (.int .i64 x11), (.int .i64 x12)] (A.nat x4)).bind fun a46 =>
    (ck (A.zle 0 x2)).bind fun _ =>
    (ck (A.zlt x2 (Int.ofNat 3))).bind fun _ =>
    some (1, (bif A.zeq x2 (Int.ofNat 0) then a46 else x21), (bif A.zeq x2 (Int.ofNat 1) then a46 else x22), (bif A.zeq x2 (Int.ofNat 2) then a46 else x23))
  else
    some (0, x21, x22, x23)

/--  *lineal code.run .swap -/
noncomputable def C118a (A : Ar) (x1 : Int) (x2 : Int) (x3 : Int) (x4 : Int) (x5 : List D) (x6 : List D) (x7 : Int) (x8 : Int) (x9 : Int) (x10 : Int) (x11 : Int) (x12 : Int) (x13 : Int) (x14 : Int) (x15 : Int) (x16 : Int) (x17 : Int) (x18 : Int) (x19 : Int) (x20 : Int) (x21 : Int) (x22 : Int) (x23 : Int) (x24 : Int) (x25 : List D) (x26 : List D) : Option (Int × Int × Int × Int) :=
  (ck (A.zle 0 x2)).bind fun _ =>
  (ck (A.zlt x2 (Int.ofNat 3))).bind fun _ =>
  (gc A (cI .i64) [(.int .i64 x21), (.int .i64 x22), (.int .i64 x23)] (A.nat x2)).bind fun a31 =>
  (ck (A.zle 0 x3)).bind fun _ =>
  (ck (A.zlt x3 (Int.ofNat 4))).bind fun _ =>
  (gc A (cI .i64) [(.int .i64 x16), (.int .i64 x17), (.int .i64 x18), (.int .i64 x19)] (A.nat x3)).bind fun a38 =>
  bif (A.zeq a31 a38) then
    (ck (A.zle 0 x4)).bind fun _ =>
    (ck (A.zlt x4 (Int.ofNat 4))).bind fun _ =>
    (gc A (cI .i64) [(.int .i64 x16), (.int .i64 x17), (.int .i64 x18), (.int .i64 x19)] (A.nat x4)).bind fun a46 =>
    (ck (A.zle 0 x2)).bind fun _ =>
    (ck (A.zlt x2 (Int.ofNat 3))).bind fun _ =>
    some (1, (bif A.zeq x2 (Int.ofNat 0) then a46 else x21), (bif A.zeq x2 (Int.ofNat 1) then a46 else x22), (bif A.zeq x2 (Int.ofNat 2) then a46 else x23))
  else
    some (0, x21, x22, x23)

/--  *lineal code.run .step -/
noncomputable def C71 (A : Ar) (x1 : Int) (x2 : List D) (x3 : List D) (x4 : List D) (x5 : Int) (x6 : Int) (x7 : Int) (x8 : Int) (x9 : Int) (x10 : Int) (x11 : Int) (x12 : Int) (x13 : Int) (x14 : Int) (x15 : Int) (x16 : Int) (x17 : Int) (x18 : Int) (x19 : Int) (x20 : Int) (x21 : Int) (x22 : Int) (x23 : List D) (x24 : List D) : Option (List D × List D × Int × Int × Int × Int × Int × Int × Int × Int × Int × Int × Int × Int × Int × Int × Int × Int × Int × Int × List D × List D) :=
  bif (A.zeq x1 0) then
    (gt A (cL 1) x4 x1).bind fun a29 =>
    (gt A (cI .i64) a29 x5).bind fun a33 =>
    ((
      bif (A.zeq x6 0) then
        (C116 A x1 x3 x4 x5 x6 x7 x8 x9 x10 x11 x12 x13 x14 x15 x16 x17 x18 x19 x20 x21 x22 x23 x24).bind fun r39 =>
        some (!r39)
      else
        some false : Option (Bool))).bind fun v40 =>
    ((
      bif v40 then
        (C117 A).bind fun () =>
        (ap A x23 [(.agg [(.int .i64 x1), (.int .i64 0), (.int .i64 a33), (.int .i64 0), (.int .i64 (A.wrp .i64 (A.zadd (A.wrp .i64 (A.zmul 2 x22)) 1))), (.int .i64 0)])]).bind fun l44 =>
        (ap A x24 [(.int .i64 0)]).bind fun l48 =>
        some (0, 1, 0, 0, (A.len x23), l44, l48)
      else
        some (x7, x8, x9, x10, x11, x23, x24) : Option (Int × Int × Int × Int × Int × List D × List D))).bind fun (v52, v53, v54, v55, v56, v57, v58) =>
    ((
      bif (A.zlt 0 (A.len x2)) then
        (gt A (cI .i64) x2 a33).bind fun a61 =>
        some (A.zeq a61 x6)
      else
        some false : Option (Bool))).bind fun v65 =>
    ((
      bif v65 then
        (ck (A.zle 0 v56)).bind fun _ =>
        (ck (A.zlt v56 (A.len v58))).bind fun _ =>
        (gc A (cI .i64) v58 (A.nat v56)).bind fun a72 =>
        some (A.lset v58 (A.nat v56) (.int .i64 (A.wrp .i64 (A.zadd x22 1))))
      else
        some v58 : Option (List D))).bind fun v75 =>
    (gt A (cL 4) x3 a33).bind fun a77 =>
    (gt A (cG (lc (cI .i64) (lc (cI .i64) (lc (cI .i64) (l1 (cI .i64)))))) a77 x6).bind fun (a81, a82, a83, a84) =>
    ((
      bif (A.zeq a81 1) then
        (ck (A.zle 0 a83)).bind fun _ =>
        (ck (A.zlt a83 (Int.ofNat 3))).bind fun _ =>
        (gc A (cI .i64) [(.int .i64 x19), (.int .i64 x20), (.int .i64 x21)] (A.nat a83)).bind fun a93 =>
        (ck (A.zle 0 a82)).bind fun _ =>
        (ck (A.zlt a82 (Int.ofNat 4))).bind fun _ =>
        some (x5, (A.wrp .i64 (A.zadd x6 1)), (bif A.zeq a82 (Int.ofNat 0) then a93 else v52), (bif A.zeq a82 (Int.ofNat 1) then a93 else v53), (bif A.zeq a82 (Int.ofNat 2) then a93 else v54), (bif A.zeq a82 (Int.ofNat 3) then a93 else v55), x19, x20, x21, v57)
      else
        ((
          bif (A.zeq a81 2) then
            (ck (A.zle 0 a83)).bind fun _ =>
            (ck (A.zlt a83 (Int.ofNat 4))).bind fun _ =>
            (gc A (cI .i64) [(.int .i64 v52), (.int .i64 v53), (.int .i64 v54), (.int .i64 v55)] (A.nat a83)).bind fun a105 =>
            (ck (A.zle 0 a82)).bind fun _ =>
            (ck (A.zlt a82 (Int.ofNat 3))).bind fun _ =>
            some (x5, (A.wrp .i64 (A.zadd x6 1)), v52, v53, v54, v55, (bif A.zeq a82 (Int.ofNat 0) then a105 else x19), (bif A.zeq a82 (Int.ofNat 1) then a105 else x20), (bif A.zeq a82 (Int.ofNat 2) then a105 else x21), v57)
          else
            ((
              bif (A.zeq a81 3) then
                (C118 A a81 a82 a83 a84 x3 x4 x5 (A.wrp .i64 (A.zadd x6 1)) v52 v53 v54 v55 v56 x12 x13 x14 x15 x16 x17 x18 x19 x20 x21 (A.wrp .i64 (A.zadd x22 1)) v57 v75).bind fun (r114, r115, r116, r117) =>
                some (x5, (A.wrp .i64 (A.zadd x6 1)), v52, v53, v54, r114, r115, r116, r117, v57)
              else
                ((
                  bif (A.zeq a81 4) then
                    (ck (A.zle 0 a82)).bind fun _ =>
                    (ck (A.zlt a82 (Int.ofNat 4))).bind fun _ =>
                    some (x5, (A.wrp .i64 (A.zadd x6 1)), (bif A.zeq a82 (Int.ofNat 0) then a83 else v52), (bif A.zeq a82 (Int.ofNat 1) then a83 else v53), (bif A.zeq a82 (Int.ofNat 2) then a83 else v54), (bif A.zeq a82 (Int.ofNat 3) then a83 else v55), v57)
                  else
                    ((
                      bif (A.zeq a81 5) then
                        (ck (A.zle 0 a83)).bind fun _ =>
                        (ck (A.zlt a83 (Int.ofNat 4))).bind fun _ =>
                        (gc A (cI .i64) [(.int .i64 v52), (.int .i64 v53), (.int .i64 v54), (.int .i64 v55)] (A.nat a83)).bind fun a128 =>
                        (ck (A.zle 0 a84)).bind fun _ =>
                        (ck (A.zlt a84 (Int.ofNat 4))).bind fun _ =>
                        (gc A (cI .i64) [(.int .i64 v52), (.int .i64 v53), (.int .i64 v54), (.int .i64 v55)] (A.nat a84)).bind fun a135 =>
                        (nk (A.zeq 10 0)).bind fun _ =>
                        (ck (A.zle 0 a82)).bind fun _ =>
                        (ck (A.zlt a82 (Int.ofNat 4))).bind fun _ =>
                        some (x5, (A.wrp .i64 (A.zadd x6 1)), (bif A.zeq a82 (Int.ofNat 0) then (A.rem (A.wrp .i64 (A.zadd a128 a135)) 10) else v52), (bif A.zeq a82 (Int.ofNat 1) then (A.rem (A.wrp .i64 (A.zadd a128 a135)) 10) else v53), (bif A.zeq a82 (Int.ofNat 2) then (A.rem (A.wrp .i64 (A.zadd a128 a135)) 10) else v54), (bif A.zeq a82 (Int.ofNat 3) then (A.rem (A.wrp .i64 (A.zadd a128 a135)) 10) else v55), v57)
                      else
                        ((
                          bif (A.zeq a81 6) then
                            (ck (A.zle 0 a82)).bind fun _ =>
                            (ck (A.zlt a82 (Int.ofNat 4))).bind fun _ =>
                            (gc A (cI .i64) [(.int .i64 v52), (.int .i64 v53), (.int .i64 v54), (.int .i64 v55)] (A.nat a82)).bind fun a149 =>
                            ((
                              bif (A.zeq a149 0) then
                                some a83
                              else
                                some (A.wrp .i64 (A.zadd x6 1)) : Option (Int))).bind fun v153 =>
                            some (x5, v153, v57)
                          else
                            ((
                              bif (A.zeq a81 7) then
                                (ck (A.zle 0 v56)).bind fun _ =>
                                (ck (A.zlt v56 (A.len v57))).bind fun _ =>
                                (ck (A.zle 0 a82)).bind fun _ =>
                                (ck (A.zlt a82 (Int.ofNat 4))).bind fun _ =>
                                (gc A (cI .i64) [(.int .i64 v52), (.int .i64 v53), (.int .i64 v54), (.int .i64 v55)] (A.nat a82)).bind fun a164 =>
                                (gc A (cG (lc (cI .i64) (lc (cI .i64) (lc (cI .i64) (lc (cI .i64) (lc (cI .i64) (l1 (cI .i64)))))))) v57 (A.nat v56)).bind fun (a167, a168, a169, a170, a171, a172) =>
                                (gc A (cG (lc (cI .i64) (lc (cI .i64) (lc (cI .i64) (lc (cI .i64) (lc (cI .i64) (l1 (cI .i64)))))))) (A.lset v57 (A.nat v56) (.agg [(.int .i64 a167), (.int .i64 a168), (.int .i64 a169), (.int .i64 a170), (.int .i64 a171), (.int .i64 (A.wrp .i64 (A.zmul 2 (A.wrp .i64 (A.zadd x22 1)))))])) (A.nat v56)).bind fun (a175, a176, a177, a178, a179, a180) =>
                                some ((A.wrp .i64 (A.zadd x5 1)), 0, (A.lset (A.lset v57 (A.nat v56) (.agg [(.int .i64 a167), (.int .i64 a168), (.int .i64 a169), (.int .i64 a170), (.int .i64 a171), (.int .i64 (A.wrp .i64 (A.zmul 2 (A.wrp .i64 (A.zadd x22 1)))))])) (A.nat v56) (.agg [(.int .i64 a175), (.int .i64 a176), (.int .i64 a177), (.int .i64 a164), (.int .i64 a179), (.int .i64 a180)])))
                              else
                                some (x5, (A.wrp .i64 (A.zadd x6 1)), v57) : Option (Int × Int × List D))).bind fun (v183, v184, v185) =>
                            some (v183, v184, v185) : Option (Int × Int × List D))).bind fun (v187, v188, v189) =>
                        some (v187, v188, v52, v53, v54, v55, v189) : Option (Int × Int × Int × Int × Int × Int × List D))).bind fun (v191, v192, v193, v194, v195, v196, v197) =>
                    some (v191, v192, v193, v194, v195, v196, v197) : Option (Int × Int × Int × Int × Int × Int × List D))).bind fun (v199, v200, v201, v202, v203, v204, v205) =>
                some (v199, v200, v201, v202, v203, v204, x19, x20, x21, v205) : Option (Int × Int × Int × Int × Int × Int × Int × Int × Int × List D))).bind fun (v207, v208, v209, v210, v211, v212, v213, v214, v215, v216) =>
            some (v207, v208, v209, v210, v211, v212, v213, v214, v215, v216) : Option (Int × Int × Int × Int × Int × Int × Int × Int × Int × List D))).bind fun (v218, v219, v220, v221, v222, v223, v224, v225, v226, v227) =>
        some (v218, v219, v220, v221, v222, v223, v224, v225, v226, v227) : Option (Int × Int × Int × Int × Int × Int × Int × Int × Int × List D))).bind fun (v229, v230, v231, v232, v233, v234, v235, v236, v237, v238) =>
    some (x3, x4, v229, v230, v231, v232, v233, v234, v56, x12, x13, x14, x15, x16, x17, x18, v235, v236, v237, (A.wrp .i64 (A.zadd x22 1)), v238, v75)
  else
    bif (A.zeq x1 1) then
      (gt A (cL 1) x4 x1).bind fun a240 =>
      (gt A (cI .i64) a240 x12).bind fun a244 =>
      ((
        bif (A.zeq x13 0) then
          (C116 A x1 x3 x4 x5 x6 x7 x8 x9 x10 x11 x12 x13 x14 x15 x16 x17 x18 x19 x20 x21 x22 x23 x24).bind fun r250 =>
          some (!r250)
        else
          some false : Option (Bool))).bind fun v251 =>
      ((
        bif v251 then
          (C117 A).bind fun () =>
          (ap A x23 [(.agg [(.int .i64 x1), (.int .i64 0), (.int .i64 a244), (.int .i64 0), (.int .i64 (A.wrp .i64 (A.zadd (A.wrp .i64 (A.zmul 2 x22)) 1))), (.int .i64 0)])]).bind fun l255 =>
          (ap A x24 [(.int .i64 0)]).bind fun l259 =>
          some (0, 1, 0, 0, (A.len x23), l255, l259)
        else
          some (x14, x15, x16, x17, x18, x23, x24) : Option (Int × Int × Int × Int × Int × List D × List D))).bind fun (v263, v264, v265, v266, v267, v268, v269) =>
      ((
        bif (A.zlt 0 (A.len x2)) then
          (gt A (cI .i64) x2 a244).bind fun a272 =>
          some (A.zeq a272 x13)
        else
          some false : Option (Bool))).bind fun v276 =>
      ((
        bif v276 then
          (ck (A.zle 0 v267)).bind fun _ =>
          (ck (A.zlt v267 (A.len v269))).bind fun _ =>
          (gc A (cI .i64) v269 (A.nat v267)).bind fun a283 =>
          some (A.lset v269 (A.nat v267) (.int .i64 (A.wrp .i64 (A.zadd x22 1))))
        else
          some v269 : Option (List D))).bind fun v286 =>
      (gt A (cL 4) x3 a244).bind fun a288 =>
      (gt A (cG (lc (cI .i64) (lc (cI .i64) (lc (cI .i64) (l1 (cI .i64)))))) a288 x13).bind fun (a292, a293, a294, a295) =>
      ((
        bif (A.zeq a292 1) then
          (ck (A.zle 0 a294)).bind fun _ =>
          (ck (A.zlt a294 (Int.ofNat 3))).bind fun _ =>
          (gc A (cI .i64) [(.int .i64 x19), (.int .i64 x20), (.int .i64 x21)] (A.nat a294)).bind fun a304 =>
          (ck (A.zle 0 a293)).bind fun _ =>
          (ck (A.zlt a293 (Int.ofNat 4))).bind fun _ =>
          some (x12, (A.wrp .i64 (A.zadd x13 1)), (bif A.zeq a293 (Int.ofNat 0) then a304 else v263), (bif A.zeq a293 (Int.ofNat 1) then a304 else v264), (bif A.zeq a293 (Int.ofNat 2) then a304 else v265), (bif A.zeq a293 (Int.ofNat 3) then a304 else v266), x19, x20, x21, v268)
        else
          ((
            bif (A.zeq a292 2) then
              (ck (A.zle 0 a294)).bind fun _ =>
              (ck (A.zlt a294 (Int.ofNat 4))).bind fun _ =>
              (gc A (cI .i64) [(.int .i64 v263), (.int .i64 v264), (.int .i64 v265), (.int .i64 v266)] (A.nat a294)).bind fun a316 =>
              (ck (A.zle 0 a293)).bind fun _ =>
              (ck (A.zlt a293 (Int.ofNat 3))).bind fun _ =>
              some (x12, (A.wrp .i64 (A.zadd x13 1)), v263, v264, v265, v266, (bif A.zeq a293 (Int.ofNat 0) then a316 else x19), (bif A.zeq a293 (Int.ofNat 1) then a316 else x20), (bif A.zeq a293 (Int.ofNat 2) then a316 else x21), v268)
            else
              ((
                bif (A.zeq a292 3) then
                  (C118a A a292 a293 a294 a295 x3 x4 x5 x6 x7 x8 x9 x10 x11 x12 (A.wrp .i64 (A.zadd x13 1)) v263 v264 v265 v266 v267 x19 x20 x21 (A.wrp .i64 (A.zadd x22 1)) v268 v286).bind fun (r325, r326, r327, r328) =>
                  some (x12, (A.wrp .i64 (A.zadd x13 1)), v263, v264, v265, r325, r326, r327, r328, v268)
                else
                  ((
                    bif (A.zeq a292 4) then
                      (ck (A.zle 0 a293)).bind fun _ =>
                      (ck (A.zlt a293 (Int.ofNat 4))).bind fun _ =>
                      some (x12, (A.wrp .i64 (A.zadd x13 1)), (bif A.zeq a293 (Int.ofNat 0) then a294 else v263), (bif A.zeq a293 (Int.ofNat 1) then a294 else v264), (bif A.zeq a293 (Int.ofNat 2) then a294 else v265), (bif A.zeq a293 (Int.ofNat 3) then a294 else v266), v268)
                    else
                      ((
                        bif (A.zeq a292 5) then
                          (ck (A.zle 0 a294)).bind fun _ =>
                          (ck (A.zlt a294 (Int.ofNat 4))).bind fun _ =>
                          (gc A (cI .i64) [(.int .i64 v263), (.int .i64 v264), (.int .i64 v265), (.int .i64 v266)] (A.nat a294)).bind fun a339 =>
                          (ck (A.zle 0 a295)).bind fun _ =>
                          (ck (A.zlt a295 (Int.ofNat 4))).bind fun _ =>
                          (gc A (cI .i64) [(.int .i64 v263), (.int .i64 v264), (.int .i64 v265), (.int .i64 v266)] (A.nat a295)).bind fun a346 =>
                          (nk (A.zeq 10 0)).bind fun _ =>
                          (ck (A.zle 0 a293)).bind fun _ =>
                          (ck (A.zlt a293 (Int.ofNat 4))).bind fun _ =>
                          some (x12, (A.wrp .i64 (A.zadd x13 1)), (bif A.zeq a293 (Int.ofNat 0) then (A.rem (A.wrp .i64 (A.zadd a339 a346)) 10) else v263), (bif A.zeq a293 (Int.ofNat 1) then (A.rem (A.wrp .i64 (A.zadd a339 a346)) 10) else v264), (bif A.zeq a293 (Int.ofNat 2) then (A.rem (A.wrp .i64 (A.zadd a339 a346)) 10) else v265), (bif A.zeq a293 (Int.ofNat 3) then (A.rem (A.wrp .i64 (A.zadd a339 a346)) 10) else v266), v268)
                        else
                          ((
                            bif (A.zeq a292 6) then
                              (ck (A.zle 0 a293)).bind fun _ =>
                              (ck (A.zlt a293 (Int.ofNat 4))).bind fun _ =>
                              (gc A (cI .i64) [(.int .i64 v263), (.int .i64 v264), (.int .i64 v265), (.int .i64 v266)] (A.nat a293)).bind fun a360 =>
                              ((
                                bif (A.zeq a360 0) then
                                  some a294
                                else
                                  some (A.wrp .i64 (A.zadd x13 1)) : Option (Int))).bind fun v364 =>
                              some (x12, v364, v268)
                            else
                              ((
                                bif (A.zeq a292 7) then
                                  (ck (A.zle 0 v267)).bind fun _ =>
                                  (ck (A.zlt v267 (A.len v268))).bind fun _ =>
                                  (ck (A.zle 0 a293)).bind fun _ =>
                                  (ck (A.zlt a293 (Int.ofNat 4))).bind fun _ =>
                                  (gc A (cI .i64) [(.int .i64 v263), (.int .i64 v264), (.int .i64 v265), (.int .i64 v266)] (A.nat a293)).bind fun a375 =>
                                  (gc A (cG (lc (cI .i64) (lc (cI .i64) (lc (cI .i64) (lc (cI .i64) (lc (cI .i64) (l1 (cI .i64)))))))) v268 (A.nat v267)).bind fun (a378, a379, a380, a381, a382, a383) =>
                                  (gc A (cG (lc (cI .i64) (lc (cI .i64) (lc (cI .i64) (lc (cI .i64) (lc (cI .i64) (l1 (cI .i64)))))))) (A.lset v268 (A.nat v267) (.agg [(.int .i64 a378), (.int .i64 a379), (.int .i64 a380), (.int .i64 a381), (.int .i64 a382), (.int .i64 (A.wrp .i64 (A.zmul 2 (A.wrp .i64 (A.zadd x22 1)))))])) (A.nat v267)).bind fun (a386, a387, a388, a389, a390, a391) =>
                                  some ((A.wrp .i64 (A.zadd x12 1)), 0, (A.lset (A.lset v268 (A.nat v267) (.agg [(.int .i64 a378), (.int .i64 a379), (.int .i64 a380), (.int .i64 a381), (.int .i64 a382), (.int .i64 (A.wrp .i64 (A.zmul 2 (A.wrp .i64 (A.zadd x22 1)))))])) (A.nat v267) (.agg [(.int .i64 a386), (.int .i64 a387), (.int .i64 a388), (.int .i64 a375), (.int .i64 a390), (.int .i64 a391)])))
                                else
                                  some (x12, (A.wrp .i64 (A.zadd x13 1)), v268) : Option (Int × Int × List D))).bind fun (v394, v395, v396) =>
                              some (v394, v395, v396) : Option (Int × Int × List D))).bind fun (v398, v399, v400) =>
                          some (v398, v399, v263, v264, v265, v266, v400) : Option (Int × Int × Int × Int × Int × Int × List D))).bind fun (v402, v403, v404, v405, v406, v407, v408) =>
                      some (v402, v403, v404, v405, v406, v407, v408) : Option (Int × Int × Int × Int × Int × Int × List D))).bind fun (v410, v411, v412, v413, v414, v415, v416) =>
                  some (v410, v411, v412, v413, v414, v415, x19, x20, x21, v416) : Option (Int × Int × Int × Int × Int × Int × Int × Int × Int × List D))).bind fun (v418, v419, v420, v421, v422, v423, v424, v425, v426, v427) =>
              some (v418, v419, v420, v421, v422, v423, v424, v425, v426, v427) : Option (Int × Int × Int × Int × Int × Int × Int × Int × Int × List D))).bind fun (v429, v430, v431, v432, v433, v434, v435, v436, v437, v438) =>
          some (v429, v430, v431, v432, v433, v434, v435, v436, v437, v438) : Option (Int × Int × Int × Int × Int × Int × Int × Int × Int × List D))).bind fun (v440, v441, v442, v443, v444, v445, v446, v447, v448, v449) =>
      some (x3, x4, x5, x6, x7, x8, x9, x10, x11, v440, v441, v442, v443, v444, v445, v267, v446, v447, v448, (A.wrp .i64 (A.zadd x22 1)), v449, v286)
    else
      none

noncomputable def C104L0 (A : Ar) (x3 : List D) (x4 : List D) : (Int × List D × List D × Int × Int × Int × Int × Int × Int × Int × Int × Int × Int × Int × Int × Int × Int × Int × Int × Int × Int × List D × List D) → Option ((Int × List D × List D × Int × Int × Int × Int × Int × Int × Int × Int × Int × Int × Int × Int × Int × Int × Int × Int × Int × Int × List D × List D) ⊕ ((List D × List D × Int × Int × Int × Int × Int × Int × Int × Int × Int × Int × Int × Int × Int × Int × Int × Int × Int × Int × List D × List D) ⊕ (List D × List D × Int × Int × Int × Int × Int × Int × Int × Int × Int × Int × Int × Int × Int × Int × Int × Int × Int × Int × List D × List D × List D × List D × Int × Int × Int × Int × Int × Int × Int × Int × Int × Int × Int × Int × Int × Int × Int × Int × Int × Int × List D × List D))) := fun (v40, v41, v42, v43, v44, v45, v46, v47, v48, v49, v50, v51, v52, v53, v54, v55, v56, v57, v58, v59, v60, v61, v62) =>
  bif (A.zlt v40 (A.len x3)) then
    (gt A (cI .i64) x3 v40).bind fun a64 =>
    (C70 A a64 v41 v42 v43 v44 v45 v46 v47 v48 v49 v50 v51 v52 v53 v54 v55 v56 v57 v58 v59 v60 v61 v62).bind fun r69 =>
    bif r69 then
      (C71 A a64 x4 v41 v42 v43 v44 v45 v46 v47 v48 v49 v50 v51 v52 v53 v54 v55 v56 v57 v58 v59 v60 v61 v62).bind fun (r72, r73, r74, r75, r76, r77, r78, r79, r80, r81, r82, r83, r84, r85, r86, r87, r88, r89, r90, r91, r92, r93) =>
      some (.inl ((A.wrp .i64 (A.zadd v40 1)), r72, r73, r74, r75, r76, r77, r78, r79, r80, r81, r82, r83, r84, r85, r86, r87, r88, r89, r90, r91, r92, r93))
    else
      some (.inr (.inr (v41, v42, v43, v44, v45, v46, v47, v48, v49, v50, v51, v52, v53, v54, v55, v56, v57, v58, v59, v60, v61, v62, v41, v42, v43, v44, v45, v46, v47, v48, v49, v50, v51, v52, v53, v54, v55, v56, v57, v58, v59, v60, v61, v62)))
  else
    some (.inr (.inl (v41, v42, v43, v44, v45, v46, v47, v48, v49, v50, v51, v52, v53, v54, v55, v56, v57, v58, v59, v60, v61, v62)))

/-- lineal code.done -/
noncomputable def C104 (A : Ar) (x1 : List D) (x2 : List D) (x3 : List D) (x4 : List D) : Option (List D × List D × Int × Int × Int × Int × Int × Int × Int × Int × Int × Int × Int × Int × Int × Int × Int × Int × Int × Int × List D × List D × Bool) :=
  (C69 A x1 x2).bind fun (r6, r7) =>
  bif (A.zlt 12 (A.len x3)) then
    some (r6, r7, 0, 0, 0, 0, 0, 0, 0, 0, 0, 0, 0, 0, 0, 0, 0, 0, 0, 0, [], [], false)
  else
    (iter (C104L0 A x3 x4) (0, r6, r7, 0, 0, 0, 0, 0, 0, 0, 0, 0, 0, 0, 0, 0, 0, 0, 0, 0, 0, [], [])).bind (Sum.elim (fun (v94, v95, v96, v97, v98, v99, v100, v101, v102, v103, v104, v105, v106, v107, v108, v109, v110, v111, v112, v113, v114, v115) =>
      some (v94, v95, v96, v97, v98, v99, v100, v101, v102, v103, v104, v105, v106, v107, v108, v109, v110, v111, v112, v113, v114, v115, true)) (fun (v116, v117, v118, v119, v120, v121, v122, v123, v124, v125, v126, v127, v128, v129, v130, v131, v132, v133, v134, v135, v136, v137, v138, v139, v140, v141, v142, v143, v144, v145, v146, v147, v148, v149, v150, v151, v152, v153, v154, v155, v156, v157, v158, v159) =>
      some (v116, v117, v118, v119, v120, v121, v122, v123, v124, v125, v126, v127, v128, v129, v130, v131, v132, v133, v134, v135, v136, v137, false)))

/-- lineal code.Run$1 -/
noncomputable def C45 (A : Ar) (x1 : List D) (x2 : List D) (x3 : Int) (x4 : Int) (x5 : Int) (x6 : Int) (x7 : Int) (x8 : Int) (x9 : Int) (x10 : Int) (x11 : Int) (x12 : Int) (x13 : Int) (x14 : Int) (x15 : Int) (x16 : Int) (x17 : Int) (x18 : Int) (x19 : Int) (x20 : Int) (x21 : List D) (x22 : List D) (x23 : List D) : Option (List D) :=
  some x21

/-- lineal code.behind -/
noncomputable def C44 (A : Ar) (x1 : List D) (x2 : List D) (x3 : List D) (x4 : List D) : Option ((List D) ⊕ (Int)) :=
  (C89 A x1 x2).bind fun r6 =>
  bif (A.zeq r6 0) then
    (C104 A x1 x2 x3 []).bind fun (r9, r10, r11, r12, r13, r14, r15, r16, r17, r18, r19, r20, r21, r22, r23, r24, r25, r26, r27, r28, r29, r30, r31) =>
    bif r31 then
      (C45 A r9 r10 r11 r12 r13 r14 r15 r16 r17 r18 r19 r20 r21 r22 r23 r24 r25 r26 r27 r28 r29 r30 x4).bind fun r34 =>
      some (.inl r34)
    else
      some (.inr 2)
  else
    some (.inr r6)

/-- lineal code.Run -/
noncomputable def C13 (A : Ar) (x1 : List D) (x2 : List D) (x3 : List D) : Option (List D × Int) :=
  ((
    (C44 A x1 x2 x3 []).bind (Sum.elim (fun r5 =>
      some (0, r5)) (fun r6 =>
      some (r6, []))) : Option (Int × List D))).bind fun (v8, v9) =>
  some (v9, v8)

/-- lineal lineallaw08.Sane -/
noncomputable def C10 (A : Ar) : Option (Bool) :=
  (C13 A [(.list 4 [(.agg [(.int .i64 1), (.int .i64 0), (.int .i64 0), (.int .i64 0)]), (.agg [(.int .i64 5), (.int .i64 2), (.int .i64 0), (.int .i64 1)]), (.agg [(.int .i64 2), (.int .i64 0), (.int .i64 2), (.int .i64 0)]), (.agg [(.int .i64 7), (.int .i64 0), (.int .i64 0), (.int .i64 0)])])] [(.list 1 [(.int .i64 0)]), (.list 1 [(.int .i64 0)])] [(.int .i64 0), (.int .i64 0), (.int .i64 1), (.int .i64 1), (.int .i64 0), (.int .i64 0), (.int .i64 1), (.int .i64 1)]).bind fun (r2, r3) =>
  ((
    bif (A.zeq r3 0) then
      bif (A.zeq (A.len r2) 2) then
        (gc A (cG (lc (cI .i64) (lc (cI .i64) (lc (cI .i64) (lc (cI .i64) (lc (cI .i64) (l1 (cI .i64)))))))) r2 0).bind fun (a6, a7, a8, a9, a10, a11) =>
        bif (A.deq [(.int .i64 a6), (.int .i64 a7), (.int .i64 a8), (.int .i64 a9), (.int .i64 a10), (.int .i64 a11)] [(.int .i64 0), (.int .i64 0), (.int .i64 0), (.int .i64 0), (.int .i64 1), (.int .i64 12)]) then
          (gc A (cG (lc (cI .i64) (lc (cI .i64) (lc (cI .i64) (lc (cI .i64) (lc (cI .i64) (l1 (cI .i64)))))))) r2 1).bind fun (a15, a16, a17, a18, a19, a20) =>
          some (A.deq [(.int .i64 a15), (.int .i64 a16), (.int .i64 a17), (.int .i64 a18), (.int .i64 a19), (.int .i64 a20)] [(.int .i64 1), (.int .i64 0), (.int .i64 0), (.int .i64 0), (.int .i64 5), (.int .i64 16)])
        else
          some false
      else
        some false
    else
      some false : Option (Bool))).bind fun v23 =>
  some v23

/-- lineal code.ValidUse -/
noncomputable def C11 (A : Ar) (x1 : List D) (x2 : List D) : Option (Bool × Int) :=
  (C15 A x1).bind fun r4 =>
  bif r4 then
    (C42 A x1 x2).bind fun r7 =>
    some (r7, 0)
  else
    some (false, 80)

/-- lineal linealref08.within -/
noncomputable def C51 (A : Ar) (x1 : Int) (x2 : Int) (x3 : Int) : Option (Bool) :=
  ((
    bif (A.zle x1 x2) then
      some (A.zle x2 x3)
    else
      some false : Option (Bool))).bind fun v5 =>
  some v5

/-- lineal linealref08.isRegister -/
noncomputable def C111 (A : Ar) (x1 : Int) : Option (Bool) :=
  (C51 A 0 x1 3).bind fun r3 =>
  some r3

/-- lineal linealref08.isCell -/
noncomputable def C82 (A : Ar) (x1 : Int) : Option (Bool) :=
  (C51 A 0 x1 2).bind fun r3 =>
  some r3

/-- lineal linealref08.isNumber -/
noncomputable def C112 (A : Ar) (x1 : Int) : Option (Bool) :=
  (C51 A 0 x1 9).bind fun r3 =>
  some r3

/-- lineal linealref08.isLine -/
noncomputable def C52 (A : Ar) (x1 : Int) (x2 : Int) (x3 : Int) (x4 : Int) (x5 : Int) : Option (Bool) :=
  bif (A.zeq x1 1) then
    ((
      (C111 A x2).bind fun r8 =>
      bif r8 then
        (C82 A x3).bind fun r11 =>
        bif r11 then
          some (A.zeq x4 0)
        else
          some false
      else
        some false : Option (Bool))).bind fun v13 =>
    some v13
  else
    bif (A.zeq x1 2) then
      ((
        (C82 A x2).bind fun r17 =>
        bif r17 then
          (C111 A x3).bind fun r20 =>
          bif r20 then
            some (A.zeq x4 0)
          else
            some false
        else
          some false : Option (Bool))).bind fun v22 =>
      some v22
    else
      bif (A.zeq x1 3) then
        ((
          (C82 A x2).bind fun r26 =>
          bif r26 then
            (C111 A x3).bind fun r29 =>
            bif r29 then
              (C111 A x4).bind fun r32 =>
              some r32
            else
              some false
          else
            some false : Option (Bool))).bind fun v33 =>
        some v33
      else
        bif (A.zeq x1 4) then
          ((
            (C111 A x2).bind fun r37 =>
            bif r37 then
              (C112 A x3).bind fun r40 =>
              bif r40 then
                some (A.zeq x4 0)
              else
                some false
            else
              some false : Option (Bool))).bind fun v42 =>
          some v42
        else
          bif (A.zeq x1 5) then
            ((
              (C111 A x2).bind fun r46 =>
              bif r46 then
                (C111 A x3).bind fun r49 =>
                bif r49 then
                  (C111 A x4).bind fun r52 =>
                  some r52
                else
                  some false
              else
                some false : Option (Bool))).bind fun v53 =>
            some v53
          else
            bif (A.zeq x1 6) then
              ((
                (C111 A x2).bind fun r57 =>
                bif r57 then
                  (C51 A 0 x3 (A.wrp .i64 (A.zsub x5 1))).bind fun r60 =>
                  bif r60 then
                    some (A.zeq x4 0)
                  else
                    some false
                else
                  some false : Option (Bool))).bind fun v62 =>
              some v62
            else
              bif (A.zeq x1 7) then
                ((
                  (C111 A x2).bind fun r66 =>
                  bif r66 then
                    bif (A.zeq x3 0) then
                      some (A.zeq x4 0)
                    else
                      some false
                  else
                    some false : Option (Bool))).bind fun v69 =>
                some v69
              else
                some false

noncomputable def C16L0 (A : Ar) (a47 : List D) : Int → Option ((Int) ⊕ ((Unit) ⊕ (Unit))) := fun v65 =>
  bif (A.zlt v65 (A.len a47)) then
    (gt A (cG (lc (cI .i64) (lc (cI .i64) (lc (cI .i64) (l1 (cI .i64)))))) a47 v65).bind fun (a67, a68, a69, a70) =>
    (C52 A a67 a68 a69 a70 (A.len a47)).bind fun r75 =>
    bif r75 then
      some (.inl (A.wrp .i64 (A.zadd v65 1)))
    else
      some (.inr (.inr ()))
  else
    some (.inr (.inl ()))

noncomputable def C16L1 (A : Ar) (x1 : List D) : Int → Option ((Int) ⊕ ((Unit) ⊕ (Unit))) := fun v45 =>
  bif (A.zlt v45 (A.len x1)) then
    (gt A (cL 4) x1 v45).bind fun a47 =>
    (C51 A 1 (A.len a47) 8).bind fun r52 =>
    bif r52 then
      (iter (C16L0 A a47) 0).bind (Sum.elim (fun _ =>
        (gt A (cG (lc (cI .i64) (lc (cI .i64) (lc (cI .i64) (l1 (cI .i64)))))) a47 (A.wrp .i64 (A.zsub (A.len a47) 1))).bind fun (a78, a79, a80, a81) =>
        bif (A.zeq a78 7) then
          some (.inl (A.wrp .i64 (A.zadd v45 1)))
        else
          some (.inr (.inr ()))) (fun _ =>
        some (.inr (.inr ()))))
    else
      some (.inr (.inr ()))
  else
    some (.inr (.inl ()))

/-- lineal linealref08.Valid -/
noncomputable def C16 (A : Ar) (x1 : List D) : Option (Bool) :=
  (C51 A 1 (A.len x1) 4).bind fun r3 =>
  bif r3 then
    (iter (C16L1 A x1) 0).bind (Sum.elim (fun _ =>
      some true) (fun _ =>
      some false))
  else
    some false

noncomputable def C43L0 (A : Ar) (x1 : List D) (a32 : List D) : Int → Option ((Int) ⊕ ((Unit) ⊕ (Unit))) := fun v45 =>
  bif (A.zlt v45 (A.len a32)) then
    (gt A (cI .i64) a32 v45).bind fun a47 =>
    (C51 A 0 a47 (A.wrp .i64 (A.zsub (A.len x1) 1))).bind fun r52 =>
    bif r52 then
      some (.inl (A.wrp .i64 (A.zadd v45 1)))
    else
      some (.inr (.inr ()))
  else
    some (.inr (.inl ()))

noncomputable def C43L1 (A : Ar) (x1 : List D) (x2 : List D) : Int → Option ((Int) ⊕ ((Unit) ⊕ (Unit))) := fun v30 =>
  bif (A.zlt v30 (A.len x2)) then
    (gt A (cL 1) x2 v30).bind fun a32 =>
    bif (A.zlt 3 (A.len a32)) then
      some (.inr (.inr ()))
    else
      (iter (C43L0 A x1 a32) 0).bind (Sum.elim (fun _ =>
        some (.inl (A.wrp .i64 (A.zadd v30 1)))) (fun _ =>
        some (.inr (.inr ()))))
  else
    some (.inr (.inl ()))

/-- lineal linealref08.IsUse -/
noncomputable def C43 (A : Ar) (x1 : List D) (x2 : List D) : Option (Bool) :=
  (C51 A 1 (A.len x2) 2).bind fun r4 =>
  bif r4 then
    (iter (C43L1 A x1 x2) 0).bind (Sum.elim (fun _ =>
      some true) (fun _ =>
      some false))
  else
    some false

/-- lineal linealref08.ValidUse -/
noncomputable def C12 (A : Ar) (x1 : List D) (x2 : List D) : Option (Bool × Int) :=
  (C16 A x1).bind fun r4 =>
  bif r4 then
    (C43 A x1 x2).bind fun r7 =>
    some (r7, 0)
  else
    some (false, 80)

/-- lineal linealref08.asked -/
noncomputable def C105 (A : Ar) (x1 : List D) (x2 : List D) : Option (Int) :=
  (C16 A x1).bind fun r4 =>
  bif r4 then
    (C43 A x1 x2).bind fun r7 =>
    bif r7 then
      some 0
    else
      some 81
  else
    some 80

/-- lineal linealref08.Begin -/
noncomputable def C76 (A : Ar) (x1 : List D) (x2 : List D) (x3 : List D) : Option (List D × List D × List D × List D) :=
  (ck (A.zeq (A.len x2) (A.len x2))).bind fun _ =>
  (ck (A.zle 0 (A.len x2))).bind fun _ =>
  (ck (A.fits (A.len x2))).bind fun _ =>
  some (x1, x2, x3, (A.rep (A.len x2) (.agg [(.int .i64 0), (.int .i64 0), (.bool false), (.int .i64 0), (.int .i64 0), (.int .i64 0), (.int .i64 0), (.int .i64 0)])))

/--  *lineal linealref08.Play .HasLine -/
noncomputable def C57 (A : Ar) (x1 : Int) (x2 : List D) (x3 : List D) (x4 : List D) (x5 : Int) (x6 : Int) (x7 : Int) (x8 : Int) (x9 : List D) (x10 : List D) (x11 : List D) : Option (Bool) :=
  ((
    (ck (A.zle 0 x1)).bind fun _ =>
    (ck (A.zlt x1 (A.len x9))).bind fun _ =>
    (gc A (cG (lc (cI .i64) (lc (cI .i64) (lc cB (lc (cI .i64) (lc (cI .i64) (lc (cI .i64) (lc (cI .i64) (l1 (cI .i64)))))))))) x9 (A.nat x1)).bind fun (a16, a17, a18, a19, a20, a21, a22, a23) =>
    bif a18 then
      some true
    else
      (ck (A.zle 0 x1)).bind fun _ =>
      (ck (A.zlt x1 (A.len x9))).bind fun _ =>
      (gt A (cL 1) x3 x1).bind fun a31 =>
      some (A.zlt a16 (A.len a31)) : Option (Bool))).bind fun v35 =>
  some v35

/--  *lineal linealref08.Play .Step -/
noncomputable def C78 (A : Ar) (x1 : Int) (x2 : List D) (x3 : List D) (x4 : List D) (x5 : Int) (x6 : Int) (x7 : Int) (x8 : Int) (x9 : List D) (x10 : List D) (x11 : List D) : Option (List D × List D × List D × Int × Int × Int × Int × List D × List D × List D) :=
  (ck (A.zle 0 x1)).bind fun _ =>
  (ck (A.zlt x1 (A.len x9))).bind fun _ =>
  (gc A (cG (lc (cI .i64) (lc (cI .i64) (lc cB (lc (cI .i64) (lc (cI .i64) (lc (cI .i64) (lc (cI .i64) (l1 (cI .i64)))))))))) x9 (A.nat x1)).bind fun (a16, a17, a18, a19, a20, a21, a22, a23) =>
  ((
    bif a18 then
      some (x9, x10, x11)
    else
      (gt A (cL 1) x3 x1).bind fun a27 =>
      (gc A (cG (lc (cI .i64) (lc (cI .i64) (lc cB (lc (cI .i64) (lc (cI .i64) (lc (cI .i64) (lc (cI .i64) (l1 (cI .i64)))))))))) (A.lset x9 (A.nat x1) (.agg [(.int .i64 (A.wrp .i64 (A.zadd a16 1))), (.int .i64 0), (.bool true), (.int .i64 (A.len x10)), (.int .i64 0), (.int .i64 1), (.int .i64 0), (.int .i64 0)])) (A.nat x1)).bind fun (a31, a32, a33, a34, a35, a36, a37, a38) =>
      (gt A (cI .i64) a27 (A.wrp .i64 (A.zsub a31 1))).bind fun a41 =>
      (ap A x10 [(.agg [(.int .i64 x1), (.int .i64 0), (.int .i64 a41), (.int .i64 0), (.int .i64 (A.wrp .i64 (A.zadd (A.wrp .i64 (A.zmul 2 x5)) 1))), (.int .i64 0)])]).bind fun l45 =>
      (ap A x11 [(.int .i64 (-1))]).bind fun l49 =>
      some ((A.lset x9 (A.nat x1) (.agg [(.int .i64 (A.wrp .i64 (A.zadd a16 1))), (.int .i64 0), (.bool true), (.int .i64 (A.len x10)), (.int .i64 0), (.int .i64 1), (.int .i64 0), (.int .i64 0)])), l45, l49) : Option (List D × List D × List D))).bind fun (v53, v54, v55) =>
  (gc A (cG (lc (cI .i64) (lc (cI .i64) (lc cB (lc (cI .i64) (lc (cI .i64) (lc (cI .i64) (lc (cI .i64) (l1 (cI .i64)))))))))) v53 (A.nat x1)).bind fun (a57, a58, a59, a60, a61, a62, a63, a64) =>
  (ck (A.zle 0 a60)).bind fun _ =>
  (ck (A.zlt a60 (A.len v54))).bind fun _ =>
  (gc A (cG (lc (cI .i64) (lc (cI .i64) (lc (cI .i64) (lc (cI .i64) (lc (cI .i64) (l1 (cI .i64)))))))) v54 (A.nat a60)).bind fun (a71, a72, a73, a74, a75, a76) =>
  (gt A (cL 4) x2 a73).bind fun a79 =>
  (gt A (cG (lc (cI .i64) (lc (cI .i64) (lc (cI .i64) (l1 (cI .i64)))))) a79 a58).bind fun (a83, a84, a85, a86) =>
  ((
    bif (A.zeq a83 1) then
      (ck (A.zle 0 a85)).bind fun _ =>
      (ck (A.zlt a85 (Int.ofNat 3))).bind fun _ =>
      (gc A (cI .i64) [(.int .i64 x6), (.int .i64 x7), (.int .i64 x8)] (A.nat a85)).bind fun a95 =>
      (ck (A.zle 0 a84)).bind fun _ =>
      (ck (A.zlt a84 (Int.ofNat 4))).bind fun _ =>
      (gc A (cG (lc (cI .i64) (lc (cI .i64) (lc cB (lc (cI .i64) (lc (cI .i64) (lc (cI .i64) (lc (cI .i64) (l1 (cI .i64)))))))))) (A.lset v53 (A.nat x1) (.agg [(.int .i64 a57), (.int .i64 (A.wrp .i64 (A.zadd a58 1))), (.bool a59), (.int .i64 a60), (.int .i64 a61), (.int .i64 a62), (.int .i64 a63), (.int .i64 a64)])) (A.nat x1)).bind fun (a102, a103, a104, a105, a106, a107, a108, a109) =>
      some (x6, x7, x8, (A.lset (A.lset v53 (A.nat x1) (.agg [(.int .i64 a57), (.int .i64 (A.wrp .i64 (A.zadd a58 1))), (.bool a59), (.int .i64 a60), (.int .i64 a61), (.int .i64 a62), (.int .i64 a63), (.int .i64 a64)])) (A.nat x1) (.agg [(.int .i64 a102), (.int .i64 a103), (.bool a104), (.int .i64 a105), (.int .i64 (bif A.zeq a84 (Int.ofNat 0) then a95 else a106)), (.int .i64 (bif A.zeq a84 (Int.ofNat 1) then a95 else a107)), (.int .i64 (bif A.zeq a84 (Int.ofNat 2) then a95 else a108)), (.int .i64 (bif A.zeq a84 (Int.ofNat 3) then a95 else a109))])), v54)
    else
      ((
        bif (A.zeq a83 2) then
          (ck (A.zle 0 a85)).bind fun _ =>
          (ck (A.zlt a85 (Int.ofNat 4))).bind fun _ =>
          (gc A (cG (lc (cI .i64) (lc (cI .i64) (lc cB (lc (cI .i64) (lc (cI .i64) (lc (cI .i64) (lc (cI .i64) (l1 (cI .i64)))))))))) (A.lset v53 (A.nat x1) (.agg [(.int .i64 a57), (.int .i64 (A.wrp .i64 (A.zadd a58 1))), (.bool a59), (.int .i64 a60), (.int .i64 a61), (.int .i64 a62), (.int .i64 a63), (.int .i64 a64)])) (A.nat x1)).bind fun (a120, a121, a122, a123, a124, a125, a126, a127) =>
          (gc A (cI .i64) [(.int .i64 a124), (.int .i64 a125), (.int .i64 a126), (.int .i64 a127)] (A.nat a85)).bind fun a117 =>
          (ck (A.zle 0 a84)).bind fun _ =>
          (ck (A.zlt a84 (Int.ofNat 3))).bind fun _ =>
          some ((bif A.zeq a84 (Int.ofNat 0) then a117 else x6), (bif A.zeq a84 (Int.ofNat 1) then a117 else x7), (bif A.zeq a84 (Int.ofNat 2) then a117 else x8), (A.lset v53 (A.nat x1) (.agg [(.int .i64 a57), (.int .i64 (A.wrp .i64 (A.zadd a58 1))), (.bool a59), (.int .i64 a60), (.int .i64 a61), (.int .i64 a62), (.int .i64 a63), (.int .i64 a64)])), v54)
        else
          ((
            bif (A.zeq a83 3) then
              (ck (A.zle 0 a84)).bind fun _ =>
              (ck (A.zlt a84 (Int.ofNat 3))).bind fun _ =>
              (gc A (cI .i64) [(.int .i64 x6), (.int .i64 x7), (.int .i64 x8)] (A.nat a84)).bind fun a139 =>
              (ck (A.zle 0 a85)).bind fun _ =>
              (ck (A.zlt a85 (Int.ofNat 4))).bind fun _ =>
              (gc A (cG (lc (cI .i64) (lc (cI .i64) (lc cB (lc (cI .i64) (lc (cI .i64) (lc (cI .i64) (lc (cI .i64) (l1 (cI .i64)))))))))) (A.lset v53 (A.nat x1) (.agg [(.int .i64 a57), (.int .i64 (A.wrp .i64 (A.zadd a58 1))), (.bool a59), (.int .i64 a60), (.int .i64 a61), (.int .i64 a62), (.int .i64 a63), (.int .i64 a64)])) (A.nat x1)).bind fun (a149, a150, a151, a152, a153, a154, a155, a156) =>
              (gc A (cI .i64) [(.int .i64 a153), (.int .i64 a154), (.int .i64 a155), (.int .i64 a156)] (A.nat a85)).bind fun a146 =>
              ((
                bif (A.zeq a139 a146) then
                  (ck (A.zle 0 a86)).bind fun _ =>
                  (ck (A.zlt a86 (Int.ofNat 4))).bind fun _ =>
                  (gc A (cI .i64) [(.int .i64 a153), (.int .i64 a154), (.int .i64 a155), (.int .i64 a156)] (A.nat a86)).bind fun a164 =>
                  (ck (A.zle 0 a84)).bind fun _ =>
                  (ck (A.zlt a84 (Int.ofNat 3))).bind fun _ =>
                  some (1, (bif A.zeq a84 (Int.ofNat 0) then a164 else x6), (bif A.zeq a84 (Int.ofNat 1) then a164 else x7), (bif A.zeq a84 (Int.ofNat 2) then a164 else x8))
                else
                  some (0, x6, x7, x8) : Option (Int × Int × Int × Int))).bind fun (v171, v172, v173, v174) =>
              some (v172, v173, v174, (A.lset (A.lset v53 (A.nat x1) (.agg [(.int .i64 a57), (.int .i64 (A.wrp .i64 (A.zadd a58 1))), (.bool a59), (.int .i64 a60), (.int .i64 a61), (.int .i64 a62), (.int .i64 a63), (.int .i64 a64)])) (A.nat x1) (.agg [(.int .i64 a149), (.int .i64 a150), (.bool a151), (.int .i64 a152), (.int .i64 a153), (.int .i64 a154), (.int .i64 a155), (.int .i64 v171)])), v54)
            else
              ((
                bif (A.zeq a83 4) then
                  (ck (A.zle 0 a84)).bind fun _ =>
                  (ck (A.zlt a84 (Int.ofNat 4))).bind fun _ =>
                  (gc A (cG (lc (cI .i64) (lc (cI .i64) (lc cB (lc (cI .i64) (lc (cI .i64) (lc (cI .i64) (lc (cI .i64) (l1 (cI .i64)))))))))) (A.lset v53 (A.nat x1) (.agg [(.int .i64 a57), (.int .i64 (A.wrp .i64 (A.zadd a58 1))), (.bool a59), (.int .i64 a60), (.int .i64 a61), (.int .i64 a62), (.int .i64 a63), (.int .i64 a64)])) (A.nat x1)).bind fun (a181, a182, a183, a184, a185, a186, a187, a188) =>
                  some ((A.lset (A.lset v53 (A.nat x1) (.agg [(.int .i64 a57), (.int .i64 (A.wrp .i64 (A.zadd a58 1))), (.bool a59), (.int .i64 a60), (.int .i64 a61), (.int .i64 a62), (.int .i64 a63), (.int .i64 a64)])) (A.nat x1) (.agg [(.int .i64 a181), (.int .i64 a182), (.bool a183), (.int .i64 a184), (.int .i64 (bif A.zeq a84 (Int.ofNat 0) then a85 else a185)), (.int .i64 (bif A.zeq a84 (Int.ofNat 1) then a85 else a186)), (.int .i64 (bif A.zeq a84 (Int.ofNat 2) then a85 else a187)), (.int .i64 (bif A.zeq a84 (Int.ofNat 3) then a85 else a188))])), v54)
                else
                  ((
                    bif (A.zeq a83 5) then
                      (ck (A.zle 0 a85)).bind fun _ =>
                      (ck (A.zlt a85 (Int.ofNat 4))).bind fun _ =>
                      (gc A (cG (lc (cI .i64) (lc (cI .i64) (lc cB (lc (cI .i64) (lc (cI .i64) (lc (cI .i64) (lc (cI .i64) (l1 (cI .i64)))))))))) (A.lset v53 (A.nat x1) (.agg [(.int .i64 a57), (.int .i64 (A.wrp .i64 (A.zadd a58 1))), (.bool a59), (.int .i64 a60), (.int .i64 a61), (.int .i64 a62), (.int .i64 a63), (.int .i64 a64)])) (A.nat x1)).bind fun (a199, a200, a201, a202, a203, a204, a205, a206) =>
                      (gc A (cI .i64) [(.int .i64 a203), (.int .i64 a204), (.int .i64 a205), (.int .i64 a206)] (A.nat a85)).bind fun a196 =>
                      (ck (A.zle 0 a86)).bind fun _ =>
                      (ck (A.zlt a86 (Int.ofNat 4))).bind fun _ =>
                      (gc A (cI .i64) [(.int .i64 a203), (.int .i64 a204), (.int .i64 a205), (.int .i64 a206)] (A.nat a86)).bind fun a213 =>
                      (nk (A.zeq 10 0)).bind fun _ =>
                      (ck (A.zle 0 a84)).bind fun _ =>
                      (ck (A.zlt a84 (Int.ofNat 4))).bind fun _ =>
                      some ((A.lset (A.lset v53 (A.nat x1) (.agg [(.int .i64 a57), (.int .i64 (A.wrp .i64 (A.zadd a58 1))), (.bool a59), (.int .i64 a60), (.int .i64 a61), (.int .i64 a62), (.int .i64 a63), (.int .i64 a64)])) (A.nat x1) (.agg [(.int .i64 a199), (.int .i64 a200), (.bool a201), (.int .i64 a202), (.int .i64 (bif A.zeq a84 (Int.ofNat 0) then (A.rem (A.wrp .i64 (A.zadd a196 a213)) 10) else a203)), (.int .i64 (bif A.zeq a84 (Int.ofNat 1) then (A.rem (A.wrp .i64 (A.zadd a196 a213)) 10) else a204)), (.int .i64 (bif A.zeq a84 (Int.ofNat 2) then (A.rem (A.wrp .i64 (A.zadd a196 a213)) 10) else a205)), (.int .i64 (bif A.zeq a84 (Int.ofNat 3) then (A.rem (A.wrp .i64 (A.zadd a196 a213)) 10) else a206))])), v54)
                    else
                      ((
                        bif (A.zeq a83 6) then
                          (ck (A.zle 0 a84)).bind fun _ =>
                          (ck (A.zlt a84 (Int.ofNat 4))).bind fun _ =>
                          (gc A (cG (lc (cI .i64) (lc (cI .i64) (lc cB (lc (cI .i64) (lc (cI .i64) (lc (cI .i64) (lc (cI .i64) (l1 (cI .i64)))))))))) (A.lset v53 (A.nat x1) (.agg [(.int .i64 a57), (.int .i64 (A.wrp .i64 (A.zadd a58 1))), (.bool a59), (.int .i64 a60), (.int .i64 a61), (.int .i64 a62), (.int .i64 a63), (.int .i64 a64)])) (A.nat x1)).bind fun (a230, a231, a232, a233, a234, a235, a236, a237) =>
                          (gc A (cI .i64) [(.int .i64 a234), (.int .i64 a235), (.int .i64 a236), (.int .i64 a237)] (A.nat a84)).bind fun a227 =>
                          ((
                            bif (A.zeq a227 0) then
                              some (A.lset (A.lset v53 (A.nat x1) (.agg [(.int .i64 a57), (.int .i64 (A.wrp .i64 (A.zadd a58 1))), (.bool a59), (.int .i64 a60), (.int .i64 a61), (.int .i64 a62), (.int .i64 a63), (.int .i64 a64)])) (A.nat x1) (.agg [(.int .i64 a230), (.int .i64 a85), (.bool a232), (.int .i64 a233), (.int .i64 a234), (.int .i64 a235), (.int .i64 a236), (.int .i64 a237)]))
                            else
                              some (A.lset v53 (A.nat x1) (.agg [(.int .i64 a57), (.int .i64 (A.wrp .i64 (A.zadd a58 1))), (.bool a59), (.int .i64 a60), (.int .i64 a61), (.int .i64 a62), (.int .i64 a63), (.int .i64 a64)])) : Option (List D))).bind fun v241 =>
                          some (v241, v54)
                        else
                          ((
                            bif (A.zeq a83 7) then
                              (gc A (cG (lc (cI .i64) (lc (cI .i64) (lc cB (lc (cI .i64) (lc (cI .i64) (lc (cI .i64) (lc (cI .i64) (l1 (cI .i64)))))))))) (A.lset v53 (A.nat x1) (.agg [(.int .i64 a57), (.int .i64 (A.wrp .i64 (A.zadd a58 1))), (.bool a59), (.int .i64 a60), (.int .i64 a61), (.int .i64 a62), (.int .i64 a63), (.int .i64 a64)])) (A.nat x1)).bind fun (a244, a245, a246, a247, a248, a249, a250, a251) =>
                              (ck (A.zle 0 a247)).bind fun _ =>
                              (ck (A.zlt a247 (A.len v54))).bind fun _ =>
                              (gc A (cG (lc (cI .i64) (lc (cI .i64) (lc (cI .i64) (lc (cI .i64) (lc (cI .i64) (l1 (cI .i64)))))))) v54 (A.nat a247)).bind fun (a258, a259, a260, a261, a262, a263) =>
                              (ck (A.zle 0 a84)).bind fun _ =>
                              (ck (A.zlt a84 (Int.ofNat 4))).bind fun _ =>
                              (gc A (cI .i64) [(.int .i64 a248), (.int .i64 a249), (.int .i64 a250), (.int .i64 a251)] (A.nat a84)).bind fun a270 =>
                              (ck (A.zle 0 a247)).bind fun _ =>
                              (ck (A.zlt a247 (A.len (A.lset v54 (A.nat a247) (.agg [(.int .i64 a258), (.int .i64 a259), (.int .i64 a260), (.int .i64 a261), (.int .i64 a262), (.int .i64 (A.wrp .i64 (A.zadd (A.wrp .i64 (A.zmul 2 x5)) 2)))]))))).bind fun _ =>
                              (gc A (cG (lc (cI .i64) (lc (cI .i64) (lc (cI .i64) (lc (cI .i64) (lc (cI .i64) (l1 (cI .i64)))))))) (A.lset v54 (A.nat a247) (.agg [(.int .i64 a258), (.int .i64 a259), (.int .i64 a260), (.int .i64 a261), (.int .i64 a262), (.int .i64 (A.wrp .i64 (A.zadd (A.wrp .i64 (A.zmul 2 x5)) 2)))])) (A.nat a247)).bind fun (a277, a278, a279, a280, a281, a282) =>
                              some ((A.lset (A.lset v53 (A.nat x1) (.agg [(.int .i64 a57), (.int .i64 (A.wrp .i64 (A.zadd a58 1))), (.bool a59), (.int .i64 a60), (.int .i64 a61), (.int .i64 a62), (.int .i64 a63), (.int .i64 a64)])) (A.nat x1) (.agg [(.int .i64 a244), (.int .i64 a245), (.bool false), (.int .i64 a247), (.int .i64 a248), (.int .i64 a249), (.int .i64 a250), (.int .i64 a251)])), (A.lset (A.lset v54 (A.nat a247) (.agg [(.int .i64 a258), (.int .i64 a259), (.int .i64 a260), (.int .i64 a261), (.int .i64 a262), (.int .i64 (A.wrp .i64 (A.zadd (A.wrp .i64 (A.zmul 2 x5)) 2)))])) (A.nat a247) (.agg [(.int .i64 a277), (.int .i64 a278), (.int .i64 a279), (.int .i64 a270), (.int .i64 a281), (.int .i64 a282)])))
                            else
                              some ((A.lset v53 (A.nat x1) (.agg [(.int .i64 a57), (.int .i64 (A.wrp .i64 (A.zadd a58 1))), (.bool a59), (.int .i64 a60), (.int .i64 a61), (.int .i64 a62), (.int .i64 a63), (.int .i64 a64)])), v54) : Option (List D × List D))).bind fun (v285, v286) =>
                          some (v285, v286) : Option (List D × List D))).bind fun (v288, v289) =>
                      some (v288, v289) : Option (List D × List D))).bind fun (v291, v292) =>
                  some (v291, v292) : Option (List D × List D))).bind fun (v294, v295) =>
              some (x6, x7, x8, v294, v295) : Option (Int × Int × Int × List D × List D))).bind fun (v297, v298, v299, v300, v301) =>
          some (v297, v298, v299, v300, v301) : Option (Int × Int × Int × List D × List D))).bind fun (v303, v304, v305, v306, v307) =>
      some (v303, v304, v305, v306, v307) : Option (Int × Int × Int × List D × List D))).bind fun (v309, v310, v311, v312, v313) =>
  ((
    bif (A.zlt a73 (A.len x4)) then
      (gt A (cI .i64) x4 a73).bind fun a316 =>
      some (A.zeq a316 a58)
    else
      some false : Option (Bool))).bind fun v320 =>
  ((
    bif v320 then
      (gc A (cG (lc (cI .i64) (lc (cI .i64) (lc cB (lc (cI .i64) (lc (cI .i64) (lc (cI .i64) (lc (cI .i64) (l1 (cI .i64)))))))))) v312 (A.nat x1)).bind fun (a323, a324, a325, a326, a327, a328, a329, a330) =>
      (ck (A.zle 0 a326)).bind fun _ =>
      (ck (A.zlt a326 (A.len v55))).bind fun _ =>
      (gc A (cI .i64) v55 (A.nat a326)).bind fun a337 =>
      some (A.lset v55 (A.nat a326) (.int .i64 x5))
    else
      some v55 : Option (List D))).bind fun v340 =>
  some (x2, x3, x4, (A.wrp .i64 (A.zadd x5 1)), v309, v310, v311, v312, v313, v340)

noncomputable def C106L0 (A : Ar) (x2 : List D) (x3 : List D) : (Int × List D × List D × List D × Int × Int × Int × Int × List D × List D × List D) → Option ((Int × List D × List D × List D × Int × Int × Int × Int × List D × List D × List D) ⊕ ((List D × List D × List D × Int × Int × Int × Int × List D × List D × List D) ⊕ (Unit))) := fun (v39, v40, v41, v42, v43, v44, v45, v46, v47, v48, v49) =>
  bif (A.zlt v39 (A.len x3)) then
    ((
      (gt A (cI .i64) x3 v39).bind fun a51 =>
      (C51 A 0 a51 (A.wrp .i64 (A.zsub (A.len x2) 1))).bind fun r56 =>
      bif r56 then
        (C57 A a51 v40 v41 v42 v43 v44 v45 v46 v47 v48 v49).bind fun r59 =>
        some (!r59)
      else
        some true : Option (Bool))).bind fun v60 =>
    bif v60 then
      some (.inr (.inr ()))
    else
      (gt A (cI .i64) x3 v39).bind fun a63 =>
      (C78 A a63 v40 v41 v42 v43 v44 v45 v46 v47 v48 v49).bind fun (r68, r69, r70, r71, r72, r73, r74, r75, r76, r77) =>
      some (.inl ((A.wrp .i64 (A.zadd v39 1)), r68, r69, r70, r71, r72, r73, r74, r75, r76, r77))
  else
    some (.inr (.inl (v40, v41, v42, v43, v44, v45, v46, v47, v48, v49)))

/-- lineal linealref08.played -/
noncomputable def C106 (A : Ar) (x1 : List D) (x2 : List D) (x3 : List D) (x4 : List D) : Option ((Unit) ⊕ (List D × List D × List D × Int × Int × Int × Int × List D × List D × List D)) :=
  bif (A.zlt 12 (A.len x3)) then
    some (.inl ())
  else
    (C76 A x1 x2 x4).bind fun (r7, r8, r9, r10) =>
    (iter (C106L0 A x2 x3) (0, r7, r8, r9, 0, 0, 0, 0, r10, [], [])).bind (Sum.elim (fun (v78, v79, v80, v81, v82, v83, v84, v85, v86, v87) =>
      some (.inr (v78, v79, v80, v81, v82, v83, v84, v85, v86, v87))) (fun _ =>
      some (.inl ())))

/-- lineal linealref08.run -/
noncomputable def C46 (A : Ar) (x1 : List D) (x2 : List D) (x3 : List D) : Option ((Int) ⊕ (List D × List D × List D × Int × Int × Int × Int × List D × List D × List D)) :=
  (C105 A x1 x2).bind fun r5 =>
  bif (A.zeq r5 0) then
    (C106 A x1 x2 x3 []).bind (Sum.elim (fun _ =>
      some (.inl 2)) (fun (r8, r9, r10, r11, r12, r13, r14, r15, r16, r17) =>
      some (.inr (r8, r9, r10, r11, r12, r13, r14, r15, r16, r17))))
  else
    some (.inl r5)

/-- lineal linealref08.Run -/
noncomputable def C14 (A : Ar) (x1 : List D) (x2 : List D) (x3 : List D) : Option (List D × Int) :=
  (C46 A x1 x2 x3).bind (Sum.elim (fun r5 =>
    bif (A.zeq r5 0) then
      none
    else
      some ([], r5)) (fun (r6, r7, r8, r9, r10, r11, r12, r13, r14, r15) =>
    some (r14, 0)))

noncomputable def C17L0 (A : Ar) (x1 : List D) (x2 : List D) : Int → Option ((Int) ⊕ ((Unit) ⊕ (Unit))) := fun v24 =>
  bif (A.zlt v24 (A.len x1)) then
    (gt A (cG (lc (cI .i64) (lc (cI .i64) (lc (cI .i64) (lc (cI .i64) (lc (cI .i64) (l1 (cI .i64)))))))) x1 v24).bind fun (a26, a27, a28, a29, a30, a31) =>
    (gt A (cG (lc (cI .i64) (lc (cI .i64) (lc (cI .i64) (lc (cI .i64) (lc (cI .i64) (l1 (cI .i64)))))))) x2 v24).bind fun (a35, a36, a37, a38, a39, a40) =>
    bif (A.deq [(.int .i64 a26), (.int .i64 a27), (.int .i64 a28), (.int .i64 a29), (.int .i64 a30), (.int .i64 a31)] [(.int .i64 a35), (.int .i64 a36), (.int .i64 a37), (.int .i64 a38), (.int .i64 a39), (.int .i64 a40)]) then
      some (.inl (A.wrp .i64 (A.zadd v24 1)))
    else
      some (.inr (.inr ()))
  else
    some (.inr (.inl ()))

/-- lineal linealref02.Same -/
noncomputable def C17 (A : Ar) (x1 : List D) (x2 : List D) : Option (Bool) :=
  bif (A.zeq (A.len x1) (A.len x2)) then
    (iter (C17L0 A x1 x2) 0).bind (Sum.elim (fun _ =>
      some true) (fun _ =>
      some false))
  else
    some false

/-- slices.Clone   int int  -/
noncomputable def C54 (A : Ar) (x1 : List D) : Option (List D) :=
  bif (A.zlt 0 (A.len x1)) then
    (ap A [] x1).bind fun l4 =>
    some l4
  else
    both (
      some []) (
      (ap A [] x1).bind fun l8 =>
      some l8)

/-- lineal code.Cells$1 -/
noncomputable def C53 (A : Ar) (x1 : List D) (x2 : List D) (x3 : Int) (x4 : Int) (x5 : Int) (x6 : Int) (x7 : Int) (x8 : Int) (x9 : Int) (x10 : Int) (x11 : Int) (x12 : Int) (x13 : Int) (x14 : Int) (x15 : Int) (x16 : Int) (x17 : Int) (x18 : Int) (x19 : Int) (x20 : Int) (x21 : List D) (x22 : List D) : Option (List D) :=
  (C54 A [(.int .i64 x17), (.int .i64 x18), (.int .i64 x19)]).bind fun r24 =>
  some r24

/-- lineal code.behind -/
noncomputable def C44a (A : Ar) (x1 : List D) (x2 : List D) (x3 : List D) : Option (List D × Int) :=
  (C89 A x1 x2).bind fun r5 =>
  bif (A.zeq r5 0) then
    (C104 A x1 x2 x3 []).bind fun (r8, r9, r10, r11, r12, r13, r14, r15, r16, r17, r18, r19, r20, r21, r22, r23, r24, r25, r26, r27, r28, r29, r30) =>
    bif r30 then
      (C53 A r8 r9 r10 r11 r12 r13 r14 r15 r16 r17 r18 r19 r20 r21 r22 r23 r24 r25 r26 r27 r28 r29).bind fun r33 =>
      some (r33, 0)
    else
      some ([], 2)
  else
    some ([], r5)

/-- lineal code.Cells -/
noncomputable def C18 (A : Ar) (x1 : List D) (x2 : List D) (x3 : List D) : Option (List D × Int) :=
  (C44a A x1 x2 x3).bind fun (r5, r6) =>
  some (r5, r6)

noncomputable def C19L0 (A : Ar) (r10 : Int) (r11 : Int) (r12 : Int) : (List D × Int) → Option ((List D × Int) ⊕ (List D)) := fun (v41, v42) =>
  bif (A.zlt v42 3) then
    (ck (A.zle 0 v42)).bind fun _ =>
    (ck (A.zlt v42 (Int.ofNat 3))).bind fun _ =>
    (gc A (cI .i64) [(.int .i64 r10), (.int .i64 r11), (.int .i64 r12)] (A.nat v42)).bind fun a48 =>
    (ap A v41 [(.int .i64 a48)]).bind fun l51 =>
    some (.inl (l51, (A.wrp .i64 (A.zadd v42 1))))
  else
    some (.inr v41)

/-- lineal linealref08.Cells -/
noncomputable def C19 (A : Ar) (x1 : List D) (x2 : List D) (x3 : List D) : Option (List D × Int) :=
  (C46 A x1 x2 x3).bind (Sum.elim (fun r5 =>
    bif (A.zeq r5 0) then
      none
    else
      some ([], r5)) (fun (r6, r7, r8, r9, r10, r11, r12, r13, r14, r15) =>
    (iter (C19L0 A r10 r11 r12) ([], 0)).bind (fun v55 =>
    some (v55, 0))))

/--  *lineal code.run .has -/
noncomputable def C70a (A : Ar) (x1 : List D) (x2 : List D) (x3 : Int) (x4 : Int) (x5 : Int) (x6 : Int) (x7 : Int) (x8 : Int) (x9 : Int) (x10 : Int) (x11 : Int) (x12 : Int) (x13 : Int) (x14 : Int) (x15 : Int) (x16 : Int) (x17 : Int) (x18 : Int) (x19 : Int) (x20 : Int) (x21 : List D) (x22 : List D) (x23 : Int) : Option (Bool) :=
  ((
    (C47 A 0 x23 (A.wrp .i64 (A.zsub (A.len x2) 1))).bind fun r25 =>
    bif r25 then
      bif (A.zeq x23 0) then
        (gt A (cL 1) x2 x23).bind fun a29 =>
        some (A.zlt x3 (A.len a29))
      else
        bif (A.zeq x23 1) then
          (gt A (cL 1) x2 x23).bind fun a36 =>
          some (A.zlt x10 (A.len a36))
        else
          none
    else
      some false : Option (Bool))).bind fun v41 =>
  some v41

noncomputable def C56L0 (A : Ar) (x1 : List D) (x2 : List D) (x3 : Int) (x4 : Int) (x5 : Int) (x6 : Int) (x7 : Int) (x8 : Int) (x9 : Int) (x10 : Int) (x11 : Int) (x12 : Int) (x13 : Int) (x14 : Int) (x15 : Int) (x16 : Int) (x17 : Int) (x18 : Int) (x19 : Int) (x20 : Int) (x21 : List D) (x22 : List D) : (List D × Int) → Option ((List D × Int) ⊕ (List D)) := fun (v33, v34) =>
  bif (A.zlt v34 (A.len x2)) then
    (C70a A x1 x2 x3 x4 x5 x6 x7 x8 x9 x10 x11 x12 x13 x14 x15 x16 x17 x18 x19 x20 x21 x22 v34).bind fun r37 =>
    ((
      bif r37 then
        (ap A v33 [(.int .i64 v34)]).bind fun l39 =>
        some l39
      else
        some v33 : Option (List D))).bind fun v43 =>
    some (.inl (v43, (A.wrp .i64 (A.zadd v34 1))))
  else
    some (.inr v33)

/--  *lineal code.run .left -/
noncomputable def C56 (A : Ar) (x1 : List D) (x2 : List D) (x3 : Int) (x4 : Int) (x5 : Int) (x6 : Int) (x7 : Int) (x8 : Int) (x9 : Int) (x10 : Int) (x11 : Int) (x12 : Int) (x13 : Int) (x14 : Int) (x15 : Int) (x16 : Int) (x17 : Int) (x18 : Int) (x19 : Int) (x20 : Int) (x21 : List D) (x22 : List D) : Option (List D) :=
  (iter (C56L0 A x1 x2 x3 x4 x5 x6 x7 x8 x9 x10 x11 x12 x13 x14 x15 x16 x17 x18 x19 x20 x21 x22) ([], 0)).bind (fun v45 =>
  some v45)

/-- lineal code.Left$1 -/
noncomputable def C55 (A : Ar) (x1 : List D) (x2 : List D) (x3 : Int) (x4 : Int) (x5 : Int) (x6 : Int) (x7 : Int) (x8 : Int) (x9 : Int) (x10 : Int) (x11 : Int) (x12 : Int) (x13 : Int) (x14 : Int) (x15 : Int) (x16 : Int) (x17 : Int) (x18 : Int) (x19 : Int) (x20 : Int) (x21 : List D) (x22 : List D) : Option (List D) :=
  (C56 A x1 x2 x3 x4 x5 x6 x7 x8 x9 x10 x11 x12 x13 x14 x15 x16 x17 x18 x19 x20 x21 x22).bind fun r24 =>
  some r24

/-- lineal code.behind -/
noncomputable def C44b (A : Ar) (x1 : List D) (x2 : List D) (x3 : List D) : Option (List D × Int) :=
  (C89 A x1 x2).bind fun r5 =>
  bif (A.zeq r5 0) then
    (C104 A x1 x2 x3 []).bind fun (r8, r9, r10, r11, r12, r13, r14, r15, r16, r17, r18, r19, r20, r21, r22, r23, r24, r25, r26, r27, r28, r29, r30) =>
    bif r30 then
      (C55 A r8 r9 r10 r11 r12 r13 r14 r15 r16 r17 r18 r19 r20 r21 r22 r23 r24 r25 r26 r27 r28 r29).bind fun r33 =>
      some (r33, 0)
    else
      some ([], 2)
  else
    some ([], r5)

/-- lineal code.Left -/
noncomputable def C20 (A : Ar) (x1 : List D) (x2 : List D) (x3 : List D) : Option (List D × Int) :=
  (C44b A x1 x2 x3).bind fun (r5, r6) =>
  some (r5, r6)

noncomputable def C21L0 (A : Ar) (x2 : List D) : Unit → Option ((Unit) ⊕ (Unit)) := fun () =>
  bif (A.zlt 0 (A.len x2)) then
    none
  else
    some (.inr ())

noncomputable def C21L1 (A : Ar) (x2 : List D) (r6 : List D) (r7 : List D) (r8 : List D) (r9 : Int) (r10 : Int) (r11 : Int) (r12 : Int) (r13 : List D) (r14 : List D) (r15 : List D) : (List D × Int) → Option ((List D × Int) ⊕ (List D)) := fun (v31, v32) =>
  bif (A.zlt v32 (A.len x2)) then
    (C57 A v32 r6 r7 r8 r9 r10 r11 r12 r13 r14 r15).bind fun r35 =>
    ((
      bif r35 then
        (ap A v31 [(.int .i64 v32)]).bind fun l37 =>
        some l37
      else
        some v31 : Option (List D))).bind fun v41 =>
    some (.inl (v41, (A.wrp .i64 (A.zadd v32 1))))
  else
    some (.inr v31)

/-- lineal linealref08.Left -/
noncomputable def C21 (A : Ar) (x1 : List D) (x2 : List D) (x3 : List D) : Option (List D × Int) :=
  (C46 A x1 x2 x3).bind (Sum.elim (fun r5 =>
    bif (A.zeq r5 0) then
      (iter (C21L0 A x2) ()).bind (fun _ =>
      some ([], 0))
    else
      some ([], r5)) (fun (r6, r7, r8, r9, r10, r11, r12, r13, r14, r15) =>
    (iter (C21L1 A x2 r6 r7 r8 r9 r10 r11 r12 r13 r14 r15) ([], 0)).bind (fun v43 =>
    some (v43, 0))))

noncomputable def C22L0 (A : Ar) (x1 : List D) (x2 : List D) : Int → Option ((Int) ⊕ ((Unit) ⊕ (Unit))) := fun v14 =>
  bif (A.zlt v14 (A.len x1)) then
    (gt A (cI .i64) x1 v14).bind fun a16 =>
    (gt A (cI .i64) x2 v14).bind fun a20 =>
    bif (A.zeq a16 a20) then
      some (.inl (A.wrp .i64 (A.zadd v14 1)))
    else
      some (.inr (.inr ()))
  else
    some (.inr (.inl ()))

/-- lineal linealref08.SameInts -/
noncomputable def C22 (A : Ar) (x1 : List D) (x2 : List D) : Option (Bool) :=
  bif (A.zeq (A.len x1) (A.len x2)) then
    (iter (C22L0 A x1 x2) 0).bind (Sum.elim (fun _ =>
      some true) (fun _ =>
      some false))
  else
    some false

/-- lineal lineallaw08.CodeRuns -/
noncomputable def C3 (A : Ar) (x1 : Int) (x2 : Int) (x3 : List D) (x4 : List D) (x5 : List D) (x6 : List D) (x7 : List D) : Option (Bool) :=
  ((
    (C9 A x1 x2 x3 x4 x5 x6).bind fun r9 =>
    bif r9 then
      some true
    else
      some (A.zlt 60 (A.len x7)) : Option (Bool))).bind fun v11 =>
  bif v11 then
    (C10 A).bind fun r15 =>
    some r15
  else
    (C11 A x5 x6).bind fun (r17, r18) =>
    (C12 A x5 x6).bind fun (r20, r21) =>
    (C13 A x5 x6 x7).bind fun (r23, r24) =>
    (C14 A x5 x6 x7).bind fun (r26, r27) =>
    ((
      (C15 A x5).bind fun r29 =>
      (C16 A x5).bind fun r31 =>
      bif (A.beq r29 r31) then
        bif (A.beq r17 r20) then
          bif (A.zeq r18 r21) then
            (C17 A r23 r26).bind fun r36 =>
            bif r36 then
              some (!(A.zeq r24 r27))
            else
              some true
          else
            some true
        else
          some true
      else
        some true : Option (Bool))).bind fun v38 =>
    bif v38 then
      some false
    else
      (C18 A x5 x6 x7).bind fun (r42, r43) =>
      (C19 A x5 x6 x7).bind fun (r45, r46) =>
      (C20 A x5 x6 x7).bind fun (r48, r49) =>
      (C21 A x5 x6 x7).bind fun (r51, r52) =>
      ((
        (C22 A r42 r45).bind fun r54 =>
        bif r54 then
          bif (A.zeq r43 r46) then
            (C22 A r48 r51).bind fun r58 =>
            bif r58 then
              bif (A.zeq r49 r52) then
                (C10 A).bind fun r62 =>
                some r62
              else
                some false
            else
              some false
          else
            some false
        else
          some false : Option (Bool))).bind fun v63 =>
      some v63
end Go.Am
